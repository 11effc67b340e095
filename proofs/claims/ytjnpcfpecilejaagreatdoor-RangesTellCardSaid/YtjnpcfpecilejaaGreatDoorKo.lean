/- Rounds until nothing changes, as a function. Plain law. No conditions but int64s. -/
import Derived.Test.YtjnpcfpecilejaaGreatDoorKn
import Derived.Test.YtjnpcfpecilejaaGreatDoorKf
import Derived.Test.YtjnpcfpecilejaaGreatDoorKd
set_option linter.unusedVariables false
set_option linter.unusedSimpArgs false
set_option linter.unusedSectionVars false
namespace Go.Proofs.YtjnpcfpecilejaaGreatDoor
open Go.Proofs.Tryz
open Go.Proofs Go.Lib Go.Shelf Go.RowKit
variable {E : World}
set_option maxRecDepth 20000
theorem want_1 {f : PFunc} {x : PInst} {m : Nat} (e : x.op = 1) (h : m < (wantL f x).length) : (wantL f x)[m] = kindV f x.dst := by
 have h2 : (wantL f x)[m]? = some (kindV f x.dst) := by
  unfold wantL at h ⊢
  rw [if_pos e] at h ⊢
  simp at h
  subst h; rfl
 rw [qh h] at h2
 exact Option.some.inj h2
theorem want_2 {f : PFunc} {x : PInst} {m : Nat} (e : ¬ x.op = 1) (h : m < (wantL f x).length) (h' : m < (takesL x.op).length) : (wantL f x)[m] = (takesL x.op)[m] := by
 have h2 : (wantL f x)[m]? = some ((takesL x.op)[m]) := by
  unfold wantL
  rw [if_neg e, qh h']
 rw [qh h] at h2
 exact Option.some.inj h2
theorem term_kind {f : PFunc} {t : PTerm} (h : termOK f t = true) : t.kind = 0 ∨ t.kind = 1 ∨ t.kind = 2 := by
 unfold termOK at h
 by_cases h0 : t.kind = 0
 ·exact .inl h0
 ·rw [if_neg h0] at h
  by_cases h1 : t.kind = 1
  ·exact .inr (.inl h1)
  ·rw [if_neg h1] at h
   by_cases h2 : t.kind = 2
   ·exact .inr (.inr h2)
   ·rw [if_neg h2] at h; cases h
set_option maxHeartbeats 8000000 in
theorem refTyped_spec (f : PFunc) (hf : small f) (hS : ShapedP f) : AFun prog E 120 [.agg (encF f)] (.bool (f.blocks.all (blkT f))) := by
 have hn := hf.2.2.1
 refine zn func120 rfl (by decide) rfl<|zSr<|y1 (cs := _) rfl rfl rfl<|z2 (zAb rfl)<|z6<|za<|zSr<|z2 (zFF underlying26 rfl sizeOf24 rfl rfl)<|z2 (zLf isAgg24 rfl)<|z2 (zz underlying24 rfl)<|z2 (zMi rfl)<|z6<|zi<|y6 (γ := Nat) [1, 16, 17] (fun i => [(18, .int .i64 i)]) (fun i => []) (fun i => i ≤ f.blocks.length ∧ (f.blocks.take i).all (blkT f) = true) (fun i => f.blocks.length - i) 0 zR1 zLe (⟨qk _, rfl⟩) ?_
 rintro i ⟨hi, hall⟩
 refine zSr<|z2 (y7 rfl rfl)<|z6<|za<|zl rfl (fun ci=>?_) (fun ci=>?_)
 ·have hi2 : i < f.blocks.length := by simp at ci; omega
  obtain ⟨b, hbi⟩ : ∃ b, f.blocks[i] = b := ⟨_, rfl⟩
  have hget : f.blocks[i]? = some b := by rw [qh hi2, hbi]
  have hmem : b ∈ f.blocks := hbi ▸ ql hi2
  obtain ⟨hb0, hb1, hb2, hb3, hb4⟩ := hf.2.2.2.2 b hmem
  obtain ⟨hPh, hIn, hTm⟩ := hS.2.2.2.2.2 b hmem
  have hbad : blkT f b = false → f.blocks.all (blkT f) = false := fun h => Bool.eq_false_iff.2 (all_bad hi2 (by rw [hbi]; exact h))
  refine zf<|za<|zi<|zSr<|z2 (zIM i underlying24 sizeOf66 rfl rfl rfl hget)<|z2 (zh isAgg66 sizeOf66 rfl rfl)<|zo (cs := [.str ⟨#[]⟩, .raw (.slice none 0 0), .raw (.slice none 0 0), .int .i64 0, .int .i64 0, .int .i64 0, .int .i64 0]) zeroValue66 rfl rfl<|fun i4 => zc sizeOf66 rfl rfl rfl rfl rfl rfl .head rfl<|zg (ya (t := 4) rfl .head)<|z6<|za<|zSr<|z2 (zFF underlying66 rfl sizeOf59 rfl rfl)<|z2 (zLf isAgg59 rfl)<|z2 (zz underlying59 rfl)<|z2 (zMi rfl)<|z6<|zi<|y6 (γ := Nat) [1, 4, 16, 17, 18, 23, 24] (fun j => [(25, .int .i64 j)]) (fun j => []) (fun j => j ≤ b.phis.length ∧ (b.phis.take j).all (phiT f) = true) (fun j => b.phis.length - j) 0 zR1 zLe (⟨qk _, rfl⟩) ?_
  rintro j ⟨hj, hjall⟩
  refine zSr<|z2 (y7 rfl rfl)<|z6<|za<|zl rfl (fun cj=>?_) (fun cj=>?_)
  ·have hj2 : j < b.phis.length := by simp at cj; omega
   obtain ⟨p, hp⟩ : ∃ p, b.phis[j] = p := ⟨_, rfl⟩
   have hpm : p ∈ b.phis := hp ▸ ql hj2
   obtain ⟨hpd, hpl, hpn, hpa, hpf⟩ := hPh p hpm
   have hpb := (hb3 p hpm).1
   refine zf<|za<|zi<|zSr<|z2 (zIM j underlying59 sizeOf95 rfl rfl rfl (by rw [qh hj2, hp]))<|z2 (zh isAgg95 sizeOf95 rfl rfl)<|zo (cs := [.int .i64 0, .raw (.slice none 0 0), .raw (.slice none 0 0)]) zeroValue95 rfl rfl<|fun i6 => zc sizeOf95 rfl rfl rfl rfl rfl rfl .head rfl<|zg (ya (t := 6) rfl .head)<|z6<|zSr<|z2 (zFF underlying95 rfl sizeOf23 rfl rfl)<|z2 (zLf isAgg23 rfl)<|z2 (zz underlying23 rfl)<|z2 (zMi rfl)<|z6<|zi<|y6 (γ := Nat) [1, 4, 6, 16, 17, 18, 23, 24, 25, 30, 31] (fun k => [(32, .int .i64 k)]) (fun k => []) (fun k => k ≤ p.args.length ∧ (p.args.take k).all (fun v => decide (kindV f v = kindV f p.dst)) = true) (fun k => p.args.length - k) 0 zR1 zLe (⟨qk _, rfl⟩) ?_
   rintro k ⟨hk, hkall⟩
   refine zSr<|z2 (y7 rfl rfl)<|z6<|za<|zl rfl (fun ck=>?_) (fun ck=>?_)
   ·have hk2 : k < p.args.length := by simp at ck; omega
    obtain ⟨v, hv⟩ : ∃ v, p.args[k] = v := ⟨_, rfl⟩
    have hvv := List.all_eq_true.1 hpa v (hv ▸ ql hk2)
    refine zf<|za<|zi<|zSr<|z2 (zIM k underlying23 sizeOf3 rfl rfl rfl (by rw [qh hk2, hv]))<|z2 (zLi isAgg3 rfl)<|z2 (zAi rfl)<|z6<|za<|zt (fun j => false) (by kernel_rfl) rfl (zp (.rest _))<|zTk 0 rfl (zh isAgg26 sizeOf26 rfl rfl)<|zTk 1 rfl (zMi rfl)<|zTk 3 rfl (zh isAgg26 sizeOf26 rfl rfl)<|zTk 4 rfl (zFF underlying95 rfl sizeOf3 rfl rfl)<|zTk 5 rfl (zLi isAgg3 rfl)<|zOn 2 rfl<|zb (rof_spec f v hvv) rfl<|z6<|zOn 6 rfl<|zb (rof_spec f p.dst hpd) rfl<|z6<|zTk 7 rfl (yk rfl rfl)<|zDn<|zy rfl (fun cq=>?_) (fun cq=>?_)
    ·have hq : ¬ kindV f v = kindV f p.dst := by simpa using cq
     have hph : phiT f p = false := by
      unfold phiT
      rw [show (p.args.any fun v => !decide (kindV f v = kindV f p.dst)) = true from List.any_eq_true.2 ⟨v, hv ▸ ql hk2, by simp [hq]⟩]; rfl
     refine zSr<|z2 (zAb rfl)<|z6<|zd<|zm (x := .bool _) rfl ?_
     rw [hbad (by unfold blkT; rw [show b.phis.all (phiT f) = false from Bool.eq_false_iff.2 (all_bad hj2 (by rw [hp]; exact hph))]; rfl)]
    ·have hq : kindV f v = kindV f p.dst := by simpa using cq
     refine zf<|zRg<|z2 (zAd rfl rfl)<|z2 (zMi rfl)<|z6 ?_
     exact ⟨k + 1, zR11, zR1, zLe, ⟨hk2, all_take hk2 hkall (by rw [hv]; simp [hq])⟩, by omega⟩
   ·have hkn : k = p.args.length := by simp at ck; omega
    rw [hkn, qm] at hkall
    have hph : phiT f p = true := by
     unfold phiT
     rw [show (p.args.any fun v => !decide (kindV f v = kindV f p.dst)) = false from List.any_eq_false.2 fun v hv => by have := List.all_eq_true.1 hkall v hv; simpa using this]; rfl
    refine y3<|zRg<|z2 (zAd rfl rfl)<|z2 (zMi rfl)<|z6 ?_
    exact ⟨j + 1, zR7, zR1, zLe, ⟨hj2, all_take hj2 hjall (by rw [hp]; exact hph)⟩, by omega⟩
  ·have hjn : j = b.phis.length := by simp at cj; omega
   subst hjn
   rw [qm] at hjall
   refine y3<|za<|zSr<|z2 (zFF underlying66 rfl sizeOf60 rfl rfl)<|z2 (zLf isAgg60 rfl)<|z2 (zz underlying60 rfl)<|z2 (zMi rfl)<|z6<|zi<|y6 (γ := Nat) [1, 4, 16, 17, 18, 47, 48] (fun k => [(49, .int .i64 k)]) (fun k => []) (fun k => k ≤ b.insts.length ∧ (b.insts.take k).all (instT f) = true) (fun k => b.insts.length - k) 0 zR1 zLe (⟨qk _, rfl⟩) ?_
   rintro k ⟨hk, hkall⟩
   refine zSr<|z2 (y7 rfl rfl)<|z6<|za<|zl rfl (fun ck=>?_) (fun ck=>?_)
   ·have hk2 : k < b.insts.length := by simp at ck; omega
    obtain ⟨z, hz⟩ : ∃ z, b.insts[k] = z := ⟨_, rfl⟩
    have hzm : z ∈ b.insts := hz ▸ ql hk2
    have hI := instP_F (hIn z hzm)
    have hzl := hb4 z hzm
    have hwl := wantL_len hI
    have hdst : makesB z.op = true → hasV f z.dst = true := fun h => by
     rcases hI.dst with ⟨d1, _⟩ | ⟨_, _, d3⟩
     ·rw [h] at d1; cases d1
     ·exact d3
    have hcopy : z.op = 1 → makesB z.op = true := fun h => by rw [h]; rfl
    have hib : instT f z = false → f.blocks.all (blkT f) = false := fun h => hbad (by unfold blkT; rw [hjall, show b.insts.all (instT f) = false from Bool.eq_false_iff.2 (all_bad hk2 (by rw [hz]; exact h))]; rfl)
    refine zf<|za<|zi<|zSr<|z2 (zIM k underlying60 sizeOf33 rfl rfl rfl (by rw [qh hk2, hz]))<|z2 (zh isAgg33 sizeOf33 rfl rfl)<|zo (cs := [.int .i64 0, .int .i64 0, .raw (.slice none 0 0), .int .i64 0]) zeroValue33 rfl rfl<|fun i10 => zc sizeOf33 rfl rfl rfl rfl rfl rfl .head rfl<|zg (ya (t := 10) rfl .head)<|z6<|za<|yb (γ := Nat) [1, 4, 10, 16, 17, 18, 47, 48, 49] (fun g => [(11, .po g 0)]) (fun g => [(g, .cells 222 (encK (kRow z.op)))]) (fun g => True) ?_ (fun _ _ h => h) ?_
    ·refine zt (fun j => false) (by kernel_rfl) rfl (zp (.rest _))<|zTk 1 rfl (zFF underlying33 rfl sizeOf31 rfl rfl)<|zTk 2 rfl (zLi isAgg31 rfl)<|yc (i := 0) (j := 5) rfl rfl (by kernel_rfl) ?_ ?_
     ·refine zb (rows_spec) rfl<|z6<|zTk 3 rfl (zIM z.op.toNat underlying223 sizeOf222 rfl rfl (by have := hI.op; omega) (kRow_get hI.op))<|zTk 4 rfl (zh isAgg222 sizeOf222 rfl rfl)<|zOn 5 rfl<|zo (cs := [.str ⟨#[]⟩, .str ⟨#[]⟩, .str ⟨#[]⟩]) zeroValue222 rfl rfl<|fun i11 => z6<|zOn 6 rfl<|zc sizeOf222 rfl rfl rfl rfl rfl rfl .head rfl<|z6<|zDn ?_
      exact ⟨i11, zR9, zR1, zLe, trivial⟩
     ·refine zo (cs := [.str ⟨#[]⟩, .str ⟨#[]⟩, .str ⟨#[]⟩]) zeroValue222 rfl rfl<|fun i11 => z6<|zOn 0 rfl<|zb (rows_spec) rfl<|z6<|zTk 3 rfl (zIM z.op.toNat underlying223 sizeOf222 rfl rfl (by have := hI.op; omega) (kRow_get hI.op))<|zTk 4 rfl (zh isAgg222 sizeOf222 rfl rfl)<|zOn 6 rfl<|zc sizeOf222 rfl rfl rfl rfl rfl rfl .head rfl<|z6<|zDn ?_
      exact ⟨i11, zR9, zR1, zLe, trivial⟩
    ·rintro i11 _
     refine za<|zSr<|z2 (zFF underlying33 rfl sizeOf23 rfl rfl)<|z2 (zLf isAgg23 rfl)<|z2 (zz underlying23 rfl)<|z2 (zMi rfl)<|z6<|zi<|y6 (γ := Nat) [1, 4, 10, 11, 16, 17, 18, 47, 48, 49, 60] (fun m => [(61, .int .i64 m)]) (fun m => [(i11, .cells 222 (encK (kRow z.op)))]) (fun m => m ≤ z.args.length ∧ (z.args.take m).map (kindV f) = (wantL f z).take m) (fun m => z.args.length - m) 0 zR1 zLe (⟨qk _, by simp⟩) ?_
     rintro m ⟨hm, hmall⟩
     refine zSr<|z2 (y7 rfl rfl)<|z6<|za<|zl rfl (fun cm=>?_) (fun cm=>?_)
     ·have hm2 : m < z.args.length := by simp at cm; omega
      have hmw : m < (wantL f z).length := by omega
      have hmt : m < (takesL z.op).length := by have := hI.len; omega
      obtain ⟨v, hv⟩ : ∃ v, z.args[m] = v := ⟨_, rfl⟩
      have hvv := hI.args v (hv ▸ ql hm2)
      obtain ⟨c, hc, hct⟩ := takes_byte hmt
      have hbadm : ¬ kindV f v = (wantL f z)[m] → f.blocks.all (blkT f) = false := fun h => hib (by rw [instT_want hI, qv (map_ne hm2 hmw (by rw [hv]; exact h))]; rfl)
      refine zf<|za<|zi<|zSr<|z2 (zMi rfl)<|z2 (zAi rfl)<|z6<|zSr<|z2 (zq underlying222 rfl sizeOf9 (by decide) rfl rfl)<|z2 (zu (c := .str _) isAgg9 rfl ⟨_, .head⟩ rfl)<|z2 (zMi rfl)<|z2 (Gv.indexT (j := m) underlying9 rfl rfl rfl hc)<|zb (rtype_spec (c.toNat : Int)) rfl<|z2 (zAi rfl)<|z6<|za<|zSr<|z2 (zq underlying222 rfl sizeOf9 (by decide) rfl rfl)<|z2 (zu (c := .str _) isAgg9 rfl ⟨_, .head⟩ rfl)<|z2 (Gv.eqlT rfl rfl)<|z6<|zy rfl (fun cw=>?_) (fun cw=>?_)
      ·have ew : z.op = 1 := (copy_op hI.op).1 (by simpa using cw)
       refine zRg<|z2 (zh isAgg26 sizeOf26 rfl rfl)<|z2 (zFF underlying33 rfl sizeOf3 rfl rfl)<|z2 (zLi isAgg3 rfl)<|zb (rof_spec f z.dst (hdst (hcopy ew))) rfl<|z2 (zAi rfl)<|z6<|za<|zt (fun j => false) (by kernel_rfl) rfl (zp (.rest _))<|zTk 0 rfl (zh isAgg26 sizeOf26 rfl rfl)<|zTk 1 rfl (zFF underlying33 rfl sizeOf23 rfl rfl)<|zTk 2 rfl (zLf isAgg23 rfl)<|zTk 3 rfl (zMi rfl)<|zTk 4 rfl (zIM m underlying23 sizeOf3 rfl rfl rfl (by rw [qh hm2, hv]))<|zTk 5 rfl (zLi isAgg3 rfl)<|zTk 7 rfl (zMi rfl)<|zOn 6 rfl<|zb (rof_spec f v hvv) rfl<|z6<|zTk 8 rfl (yk rfl rfl)<|zDn<|zy rfl (fun cq=>?_) (fun cq=>?_)
       ·have hq : ¬ kindV f v = kindV f z.dst := by simpa using cq
        refine zSr<|z2 (zAb rfl)<|z6<|zd<|zm (x := .bool _) rfl ?_
        rw [hbadm (by rw [want_1 ew hmw]; exact hq)]
       ·have hq : kindV f v = kindV f z.dst := by simpa using cq
        refine zf<|zRg<|z2 (zAd rfl rfl)<|z2 (zMi rfl)<|z6 ?_
        exact ⟨m + 1, zR11, zR1, zLe, ⟨hm2, map_take_succ hm2 hmw hmall (by rw [hv, want_1 ew hmw]; exact hq)⟩, by omega⟩
      ·have ew : ¬ z.op = 1 := fun e => by have := (copy_op hI.op).2 e; simp [this] at cw
       refine zf<|za<|zt (fun j => false) (by kernel_rfl) rfl (zp (.rest _))<|zTk 0 rfl (zh isAgg26 sizeOf26 rfl rfl)<|zTk 1 rfl (zFF underlying33 rfl sizeOf23 rfl rfl)<|zTk 2 rfl (zLf isAgg23 rfl)<|zTk 3 rfl (zMi rfl)<|zTk 4 rfl (zIM m underlying23 sizeOf3 rfl rfl rfl (by rw [qh hm2, hv]))<|zTk 5 rfl (zLi isAgg3 rfl)<|zTk 7 rfl (zMi rfl)<|zOn 6 rfl<|zb (rof_spec f v hvv) rfl<|z6<|zTk 8 rfl (yk rfl rfl)<|zDn<|zy rfl (fun cq=>?_) (fun cq=>?_)
       ·have hq : ¬ kindV f v = typeOf (c.toNat : Int) := by simpa using cq
        refine zSr<|z2 (zAb rfl)<|z6<|zd<|zm (x := .bool _) rfl ?_
        rw [hbadm (by rw [want_2 ew hmw hmt, hct]; exact hq)]
       ·have hq : kindV f v = typeOf (c.toNat : Int) := by simpa using cq
        refine zf<|zRg<|z2 (zAd rfl rfl)<|z2 (zMi rfl)<|z6 ?_
        exact ⟨m + 1, zR11, zR1, zLe, ⟨hm2, map_take_succ hm2 hmw hmall (by rw [hv, want_2 ew hmw hmt, hct]; exact hq)⟩, by omega⟩
     ·have hmn : m = z.args.length := by simp at cm; omega
      have hall2 : z.args.map (kindV f) = wantL f z := by rw [hmn, qm, hwl, qm] at hmall; exact hmall
      have hiw := instT_want hI
      rw [qu hall2, Bool.true_and] at hiw
      refine y3<|za<|zt (fun j => false) (by kernel_rfl) rfl (zp (.r (.rest _)))<|zTk 0 rfl (zq underlying222 rfl sizeOf9 (by decide) rfl rfl)<|zTk 1 rfl (zu (c := .str _) isAgg9 rfl ⟨_, .head⟩ rfl)<|zTk 2 rfl (Gv.neqT rfl rfl)<|zTk 3 rfl (zMb rfl)<|qb (s := 89) rfl (fun c1=>?_) (fun c1=>?_)
      ·have d1 : ¬ (kRow z.op).2.2 = ⟨#[]⟩ := by simpa using c1
       have dm : makesB z.op = true := by rw [makesB_eq, qv d1]; rfl
       obtain ⟨c, hc, hct⟩ := makes_byte d1
       refine zTt 4 rfl rfl rfl c1 (zq underlying222 rfl sizeOf9 (by decide) rfl rfl)<|zTt 5 rfl rfl rfl c1 (zu (c := .str _) isAgg9 rfl ⟨_, .head⟩ rfl)<|zTt 6 rfl rfl rfl c1 (Gv.neqT rfl rfl)<|zTk 7 rfl (zPt rfl c1 rfl)<|zTk 8 rfl (zMb rfl)<|qb (s := 94) rfl (fun c2=>?_) (fun c2=>?_)
       ·have ew : ¬ z.op = 1 := fun e => by have := (copy_op hI.op).2 e; simp [this] at c2
        refine zTt 9 rfl rfl rfl c2 (zh isAgg26 sizeOf26 rfl rfl)<|zTt 10 rfl rfl rfl c2 (zFF underlying33 rfl sizeOf3 rfl rfl)<|zTt 11 rfl rfl rfl c2 (zLi isAgg3 rfl)<|zTt 13 rfl rfl rfl c2 (zq underlying222 rfl sizeOf9 (by decide) rfl rfl)<|zTt 14 rfl rfl rfl c2 (zu (c := .str _) isAgg9 rfl ⟨_, .head⟩ rfl)<|zTt 15 rfl rfl rfl c2 (Gv.indexT (j := 0) underlying9 rfl rfl rfl hc)<|zOn 12 rfl<|z8 rfl rfl c2<|zb (rof_spec f z.dst (hdst dm)) rfl<|z6<|zOn 16 rfl<|z8 rfl rfl c2<|zb (rtype_spec (c.toNat : Int)) rfl<|z6<|zTt 17 rfl rfl rfl c2 (yk rfl rfl)<|zTk 18 rfl (zPt rfl c2 rfl)<|zDn<|zy rfl (fun cq=>?_) (fun cq=>?_)
        ·have hq : ¬ kindV f z.dst = typeOf (c.toNat : Int) := by simpa using cq
         refine zSr<|z2 (zAb rfl)<|z6<|zd<|zm (x := .bool _) rfl ?_
         rw [hib (by rw [hiw, dm, qv ew, hct, qv hq]; rfl)]
        ·have hq : kindV f z.dst = typeOf (c.toNat : Int) := by simpa using cq
         refine zf<|zRg<|z2 (zAd rfl rfl)<|z2 (zMi rfl)<|z6 ?_
         exact ⟨k + 1, zR7, zR1, ⟨_, (.drop (.refl _)), rfl⟩, ⟨hk2, all_take hk2 hkall (by rw [hz, hiw, hct, qu hq]; simp)⟩, by omega⟩
       ·have ew : z.op = 1 := (copy_op hI.op).1 (by simpa using c2)
        refine zTf 9 rfl rfl rfl c2<|zTf 10 rfl rfl rfl c2<|zTf 11 rfl rfl rfl c2<|zTf 12 rfl rfl rfl c2<|zTf 13 rfl rfl rfl c2<|zTf 14 rfl rfl rfl c2<|zTf 15 rfl rfl rfl c2<|zTf 16 rfl rfl rfl c2<|zTf 17 rfl rfl rfl c2<|zTk 18 rfl (zPf rfl c2 rfl)<|zDn<|yn rfl rfl<|zf<|zRg<|z2 (zAd rfl rfl)<|z2 (zMi rfl)<|z6 ?_
        exact ⟨k + 1, zR7, zR1, ⟨_, (.drop (.refl _)), rfl⟩, ⟨hk2, all_take hk2 hkall (by rw [hz, hiw, qu ew]; simp)⟩, by omega⟩
      ·have d1 : (kRow z.op).2.2 = ⟨#[]⟩ := by simpa using c1
       have dm : makesB z.op = false := by rw [makesB_eq, qu d1]; rfl
       refine zTf 4 rfl rfl rfl c1<|zTf 5 rfl rfl rfl c1<|zTf 6 rfl rfl rfl c1<|zTk 7 rfl (zPf rfl c1 rfl)<|zTk 8 rfl (zMb rfl)<|zTf 9 rfl rfl rfl rfl<|zTf 10 rfl rfl rfl rfl<|zTf 11 rfl rfl rfl rfl<|zTf 12 rfl rfl rfl rfl<|zTf 13 rfl rfl rfl rfl<|zTf 14 rfl rfl rfl rfl<|zTf 15 rfl rfl rfl rfl<|zTf 16 rfl rfl rfl rfl<|zTf 17 rfl rfl rfl rfl<|zTk 18 rfl (zPf rfl rfl rfl)<|zDn<|yn rfl rfl<|zf<|zRg<|z2 (zAd rfl rfl)<|z2 (zMi rfl)<|z6 ?_
       exact ⟨k + 1, zR7, zR1, ⟨_, (.drop (.refl _)), rfl⟩, ⟨hk2, all_take hk2 hkall (by rw [hz, hiw, dm]; rfl)⟩, by omega⟩
   ·have hkn : k = b.insts.length := by simp at ck; omega
    rw [hkn, qm] at hkall
    refine y3<|zSr<|z2 (zFF underlying66 rfl sizeOf64 rfl rfl)<|z2 (zh isAgg64 sizeOf64 rfl rfl)<|zo (cs := [.int .i64 0, .int .i64 0, .int .i64 0, .int .i64 0]) zeroValue64 rfl rfl<|fun i14 => zc sizeOf64 rfl rfl rfl rfl rfl rfl .head rfl<|zg (ya (t := 14) rfl .head)<|z6<|za<|yb (γ := Bool) [1, 16, 17, 18] (fun u => [(152, .bool u)]) (fun u => []) (fun u => u = !termT f b.term) ?_ (fun _ _ h => h) ?_
    ·have hk3 := term_kind hTm
     refine zRg<|z2 (zFF underlying64 rfl sizeOf61 rfl rfl)<|z2 (zLi isAgg61 rfl)<|z2 (zw rfl rfl)<|z2 (zMb rfl)<|zr (s := 111) rfl (fun c1=>?_) (fun c1=>?_)
     ·refine z8 rfl rfl c1<|z2 (zh isAgg26 sizeOf26 rfl rfl)<|z8 rfl rfl c1<|z2 (zFF underlying64 rfl sizeOf3 rfl rfl)<|z8 rfl rfl c1<|z2 (zLi isAgg3 rfl)<|z8 rfl rfl c1<|zb (rof_spec f b.term.var (term_var hTm (by simp_all))) rfl<|z8 rfl rfl c1<|z2 (yk rfl rfl)<|z2 (zPt rfl c1 rfl)<|z2 (zMb rfl)<|zr (s := 118) rfl (fun c2=>?_) (fun c2=>?_)
      ·refine z7 rfl rfl c2<|z7 rfl rfl c2<|z7 rfl rfl c2<|z7 rfl rfl c2<|zk rfl rfl<|zk rfl rfl<|zk rfl rfl<|zk rfl rfl<|zk rfl rfl<|zk rfl rfl<|zk rfl rfl<|zk rfl rfl<|zk rfl rfl<|zk rfl rfl<|zk rfl rfl<|zk rfl rfl<|zk rfl rfl<|zk rfl rfl<|zk rfl rfl<|zk rfl rfl<|zk rfl rfl<|z7 rfl rfl c2<|z2 (zPt rfl c2 rfl)<|z2 (zMb rfl)<|z7 rfl rfl rfl<|z7 rfl rfl rfl<|z7 rfl rfl rfl<|z7 rfl rfl rfl<|zk rfl rfl<|zk rfl rfl<|zk rfl rfl<|zk rfl rfl<|z7 rfl rfl rfl<|z2 (zPt rfl rfl rfl)<|z6 ?_
       exact ⟨_, zR4, zR1, zLe, by simp_all [termT] <;> omega⟩
      ·refine z8 rfl rfl c2<|z2 (zFF underlying64 rfl sizeOf61 rfl rfl)<|z8 rfl rfl c2<|z2 (zLi isAgg61 rfl)<|z8 rfl rfl c2<|z2 (zw rfl rfl)<|z8 rfl rfl c2<|z2 (zMb rfl)<|zr (s := 122) rfl (fun c3=>?_) (fun c3=>?_)
       ·refine z8 rfl rfl c3<|z2 (zh isAgg26 sizeOf26 rfl rfl)<|z8 rfl rfl c3<|z2 (zFF underlying64 rfl sizeOf3 rfl rfl)<|z8 rfl rfl c3<|z2 (zLi isAgg3 rfl)<|z8 rfl rfl c3<|zb (rof_spec f b.term.var (term_var hTm (by simp_all))) rfl<|z8 rfl rfl c3<|z2 (yk rfl rfl)<|z8 rfl rfl c3<|z2 (zMb rfl)<|zr (s := 128) rfl (fun c4=>?_) (fun c4=>?_)
        ·refine z7 rfl rfl c4<|z7 rfl rfl c4<|z7 rfl rfl c4<|z7 rfl rfl c4<|z8 rfl rfl c3<|z2 (zPt rfl c4 rfl)<|z8 rfl rfl c3<|z2 (zMb rfl)<|z7 rfl rfl rfl<|z7 rfl rfl rfl<|z7 rfl rfl rfl<|z7 rfl rfl rfl<|z8 rfl rfl c3<|z2 (zPt rfl rfl rfl)<|z8 rfl rfl c2<|z2 (zPt rfl c3 rfl)<|z2 (zPf rfl c2 rfl)<|z2 (zMb rfl)<|z7 rfl rfl rfl<|z7 rfl rfl rfl<|z7 rfl rfl rfl<|z7 rfl rfl rfl<|zk rfl rfl<|zk rfl rfl<|zk rfl rfl<|zk rfl rfl<|z7 rfl rfl rfl<|z2 (zPt rfl rfl rfl)<|z6 ?_
         exact ⟨_, zR4, zR1, zLe, by simp_all [termT] <;> omega⟩
        ·refine z8 rfl rfl c4<|z2 (zFF underlying64 rfl sizeOf62 rfl rfl)<|z8 rfl rfl c4<|z2 (yx (j := 0) underlying62 sizeOf3 rfl rfl rfl (by decide) rfl)<|z8 rfl rfl c4<|z2 (zLi isAgg3 rfl)<|z8 rfl rfl c4<|z2 (zw rfl rfl)<|z8 rfl rfl c3<|z2 (zPf rfl c4 rfl)<|z8 rfl rfl c3<|z2 (zMb rfl)<|zr (s := 134) rfl (fun c5=>?_) (fun c5=>?_)
         ·refine z7 rfl rfl c5<|z7 rfl rfl c5<|z7 rfl rfl c5<|z7 rfl rfl c5<|z8 rfl rfl c3<|z2 (zPt rfl c5 rfl)<|z8 rfl rfl c2<|z2 (zPt rfl c3 rfl)<|z2 (zPf rfl c2 rfl)<|z2 (zMb rfl)<|z7 rfl rfl rfl<|z7 rfl rfl rfl<|z7 rfl rfl rfl<|z7 rfl rfl rfl<|zk rfl rfl<|zk rfl rfl<|zk rfl rfl<|zk rfl rfl<|z7 rfl rfl rfl<|z2 (zPt rfl rfl rfl)<|z6 ?_
          exact ⟨_, zR4, zR1, zLe, by simp_all [termT] <;> omega⟩
         ·refine z8 rfl rfl c5<|z2 (zFF underlying64 rfl sizeOf62 rfl rfl)<|z8 rfl rfl c5<|z2 (yx (j := 1) underlying62 sizeOf3 rfl rfl rfl (by decide) rfl)<|z8 rfl rfl c5<|z2 (zLi isAgg3 rfl)<|z8 rfl rfl c5<|z2 (zw rfl rfl)<|z8 rfl rfl c3<|z2 (zPf rfl c5 rfl)<|z8 rfl rfl c2<|z2 (zPt rfl c3 rfl)<|z2 (zPf rfl c2 rfl)<|z2 (zMb rfl)<|zr (s := 142) rfl (fun c6=>?_) (fun c6=>?_)
          ·refine z7 rfl rfl c6<|z7 rfl rfl c6<|z7 rfl rfl c6<|z7 rfl rfl c6<|zk rfl rfl<|zk rfl rfl<|zk rfl rfl<|zk rfl rfl<|z7 rfl rfl c6<|z2 (zPt rfl c6 rfl)<|z6 ?_
           exact ⟨_, zR4, zR1, zLe, by simp_all [termT] <;> omega⟩
          ·refine z8 rfl rfl c6<|z2 (zFF underlying64 rfl sizeOf61 rfl rfl)<|z8 rfl rfl c6<|z2 (zLi isAgg61 rfl)<|z8 rfl rfl c6<|z2 (zw rfl rfl)<|z8 rfl rfl c6<|z2 (zMb rfl)<|zr (s := 146) rfl (fun c7=>?_) (fun c7=>?_)
           ·refine z8 rfl rfl c7<|z2 (zFF underlying64 rfl sizeOf62 rfl rfl)<|z8 rfl rfl c7<|z2 (yx (j := 0) underlying62 sizeOf3 rfl rfl rfl (by decide) rfl)<|z8 rfl rfl c7<|z2 (zLi isAgg3 rfl)<|z8 rfl rfl c7<|z2 (zw rfl rfl)<|z8 rfl rfl c6<|z2 (zPt rfl c7 rfl)<|z2 (zPf rfl c6 rfl)<|z6 ?_
            exact ⟨_, zR4, zR1, zLe, by simp_all [termT] <;> omega⟩
           ·refine z7 rfl rfl c7<|z7 rfl rfl c7<|z7 rfl rfl c7<|z7 rfl rfl c7<|z8 rfl rfl c6<|z2 (zPf rfl c7 rfl)<|z2 (zPf rfl c6 rfl)<|z6 ?_
            exact ⟨_, zR4, zR1, zLe, by simp_all [termT] <;> omega⟩
       ·refine z7 rfl rfl c3<|z7 rfl rfl c3<|z7 rfl rfl c3<|z7 rfl rfl c3<|z7 rfl rfl c3<|z7 rfl rfl c3<|zk rfl rfl<|zk rfl rfl<|zk rfl rfl<|zk rfl rfl<|z7 rfl rfl c3<|z7 rfl rfl c3<|zk rfl rfl<|zk rfl rfl<|zk rfl rfl<|zk rfl rfl<|z7 rfl rfl c3<|z8 rfl rfl c2<|z2 (zPf rfl c3 rfl)<|z2 (zPf rfl c2 rfl)<|z2 (zMb rfl)<|z8 rfl rfl rfl<|z2 (zFF underlying64 rfl sizeOf61 rfl rfl)<|z8 rfl rfl rfl<|z2 (zLi isAgg61 rfl)<|z8 rfl rfl rfl<|z2 (zw rfl rfl)<|z8 rfl rfl rfl<|z2 (zMb rfl)<|zr (s := 146) rfl (fun c8=>?_) (fun c8=>?_)
        ·refine z8 rfl rfl c8<|z2 (zFF underlying64 rfl sizeOf62 rfl rfl)<|z8 rfl rfl c8<|z2 (yx (j := 0) underlying62 sizeOf3 rfl rfl rfl (by decide) rfl)<|z8 rfl rfl c8<|z2 (zLi isAgg3 rfl)<|z8 rfl rfl c8<|z2 (zw rfl rfl)<|z8 rfl rfl rfl<|z2 (zPt rfl c8 rfl)<|z2 (zPf rfl rfl rfl)<|z6 ?_
         exact ⟨_, zR4, zR1, zLe, by simp_all [termT] <;> omega⟩
        ·refine z7 rfl rfl c8<|z7 rfl rfl c8<|z7 rfl rfl c8<|z7 rfl rfl c8<|z8 rfl rfl rfl<|z2 (zPf rfl c8 rfl)<|z2 (zPf rfl rfl rfl)<|z6 ?_
         exact ⟨_, zR4, zR1, zLe, by simp_all [termT] <;> omega⟩
     ·refine z7 rfl rfl c1<|z7 rfl rfl c1<|z7 rfl rfl c1<|z7 rfl rfl c1<|z7 rfl rfl c1<|z2 (zPf rfl c1 rfl)<|z2 (zMb rfl)<|z8 rfl rfl rfl<|z2 (zFF underlying64 rfl sizeOf61 rfl rfl)<|z8 rfl rfl rfl<|z2 (zLi isAgg61 rfl)<|z8 rfl rfl rfl<|z2 (zw rfl rfl)<|z8 rfl rfl rfl<|z2 (zMb rfl)<|zr (s := 122) rfl (fun c9=>?_) (fun c9=>?_)
      ·refine z8 rfl rfl c9<|z2 (zh isAgg26 sizeOf26 rfl rfl)<|z8 rfl rfl c9<|z2 (zFF underlying64 rfl sizeOf3 rfl rfl)<|z8 rfl rfl c9<|z2 (zLi isAgg3 rfl)<|z8 rfl rfl c9<|zb (rof_spec f b.term.var (term_var hTm (by simp_all))) rfl<|z8 rfl rfl c9<|z2 (yk rfl rfl)<|z8 rfl rfl c9<|z2 (zMb rfl)<|zr (s := 128) rfl (fun c10=>?_) (fun c10=>?_)
       ·refine z7 rfl rfl c10<|z7 rfl rfl c10<|z7 rfl rfl c10<|z7 rfl rfl c10<|z8 rfl rfl c9<|z2 (zPt rfl c10 rfl)<|z8 rfl rfl c9<|z2 (zMb rfl)<|z7 rfl rfl rfl<|z7 rfl rfl rfl<|z7 rfl rfl rfl<|z7 rfl rfl rfl<|z8 rfl rfl c9<|z2 (zPt rfl rfl rfl)<|z8 rfl rfl rfl<|z2 (zPt rfl c9 rfl)<|z2 (zPf rfl rfl rfl)<|z2 (zMb rfl)<|z7 rfl rfl rfl<|z7 rfl rfl rfl<|z7 rfl rfl rfl<|z7 rfl rfl rfl<|zk rfl rfl<|zk rfl rfl<|zk rfl rfl<|zk rfl rfl<|z7 rfl rfl rfl<|z2 (zPt rfl rfl rfl)<|z6 ?_
        exact ⟨_, zR4, zR1, zLe, by simp_all [termT] <;> omega⟩
       ·refine z8 rfl rfl c10<|z2 (zFF underlying64 rfl sizeOf62 rfl rfl)<|z8 rfl rfl c10<|z2 (yx (j := 0) underlying62 sizeOf3 rfl rfl rfl (by decide) rfl)<|z8 rfl rfl c10<|z2 (zLi isAgg3 rfl)<|z8 rfl rfl c10<|z2 (zw rfl rfl)<|z8 rfl rfl c9<|z2 (zPf rfl c10 rfl)<|z8 rfl rfl c9<|z2 (zMb rfl)<|zr (s := 134) rfl (fun c11=>?_) (fun c11=>?_)
        ·refine z7 rfl rfl c11<|z7 rfl rfl c11<|z7 rfl rfl c11<|z7 rfl rfl c11<|z8 rfl rfl c9<|z2 (zPt rfl c11 rfl)<|z8 rfl rfl rfl<|z2 (zPt rfl c9 rfl)<|z2 (zPf rfl rfl rfl)<|z2 (zMb rfl)<|z7 rfl rfl rfl<|z7 rfl rfl rfl<|z7 rfl rfl rfl<|z7 rfl rfl rfl<|zk rfl rfl<|zk rfl rfl<|zk rfl rfl<|zk rfl rfl<|z7 rfl rfl rfl<|z2 (zPt rfl rfl rfl)<|z6 ?_
         exact ⟨_, zR4, zR1, zLe, by simp_all [termT] <;> omega⟩
        ·refine z8 rfl rfl c11<|z2 (zFF underlying64 rfl sizeOf62 rfl rfl)<|z8 rfl rfl c11<|z2 (yx (j := 1) underlying62 sizeOf3 rfl rfl rfl (by decide) rfl)<|z8 rfl rfl c11<|z2 (zLi isAgg3 rfl)<|z8 rfl rfl c11<|z2 (zw rfl rfl)<|z8 rfl rfl c9<|z2 (zPf rfl c11 rfl)<|z8 rfl rfl rfl<|z2 (zPt rfl c9 rfl)<|z2 (zPf rfl rfl rfl)<|z2 (zMb rfl)<|zr (s := 142) rfl (fun c12=>?_) (fun c12=>?_)
         ·refine z7 rfl rfl c12<|z7 rfl rfl c12<|z7 rfl rfl c12<|z7 rfl rfl c12<|zk rfl rfl<|zk rfl rfl<|zk rfl rfl<|zk rfl rfl<|z7 rfl rfl c12<|z2 (zPt rfl c12 rfl)<|z6 ?_
          exact ⟨_, zR4, zR1, zLe, by simp_all [termT] <;> omega⟩
         ·refine z8 rfl rfl c12<|z2 (zFF underlying64 rfl sizeOf61 rfl rfl)<|z8 rfl rfl c12<|z2 (zLi isAgg61 rfl)<|z8 rfl rfl c12<|z2 (zw rfl rfl)<|z8 rfl rfl c12<|z2 (zMb rfl)<|zr (s := 146) rfl (fun c13=>?_) (fun c13=>?_)
          ·refine z8 rfl rfl c13<|z2 (zFF underlying64 rfl sizeOf62 rfl rfl)<|z8 rfl rfl c13<|z2 (yx (j := 0) underlying62 sizeOf3 rfl rfl rfl (by decide) rfl)<|z8 rfl rfl c13<|z2 (zLi isAgg3 rfl)<|z8 rfl rfl c13<|z2 (zw rfl rfl)<|z8 rfl rfl c12<|z2 (zPt rfl c13 rfl)<|z2 (zPf rfl c12 rfl)<|z6 ?_
           exact ⟨_, zR4, zR1, zLe, by simp_all [termT] <;> omega⟩
          ·refine z7 rfl rfl c13<|z7 rfl rfl c13<|z7 rfl rfl c13<|z7 rfl rfl c13<|z8 rfl rfl c12<|z2 (zPf rfl c13 rfl)<|z2 (zPf rfl c12 rfl)<|z6 ?_
           exact ⟨_, zR4, zR1, zLe, by simp_all [termT] <;> omega⟩
      ·refine z7 rfl rfl c9<|z7 rfl rfl c9<|z7 rfl rfl c9<|z7 rfl rfl c9<|z7 rfl rfl c9<|z7 rfl rfl c9<|zk rfl rfl<|zk rfl rfl<|zk rfl rfl<|zk rfl rfl<|z7 rfl rfl c9<|z7 rfl rfl c9<|zk rfl rfl<|zk rfl rfl<|zk rfl rfl<|zk rfl rfl<|z7 rfl rfl c9<|z8 rfl rfl rfl<|z2 (zPf rfl c9 rfl)<|z2 (zPf rfl rfl rfl)<|z2 (zMb rfl)<|z8 rfl rfl rfl<|z2 (zFF underlying64 rfl sizeOf61 rfl rfl)<|z8 rfl rfl rfl<|z2 (zLi isAgg61 rfl)<|z8 rfl rfl rfl<|z2 (zw rfl rfl)<|z8 rfl rfl rfl<|z2 (zMb rfl)<|zr (s := 146) rfl (fun c14=>?_) (fun c14=>?_)
       ·refine z8 rfl rfl c14<|z2 (zFF underlying64 rfl sizeOf62 rfl rfl)<|z8 rfl rfl c14<|z2 (yx (j := 0) underlying62 sizeOf3 rfl rfl rfl (by decide) rfl)<|z8 rfl rfl c14<|z2 (zLi isAgg3 rfl)<|z8 rfl rfl c14<|z2 (zw rfl rfl)<|z8 rfl rfl rfl<|z2 (zPt rfl c14 rfl)<|z2 (zPf rfl rfl rfl)<|z6 ?_
        exact ⟨_, zR4, zR1, zLe, by simp_all [termT] <;> omega⟩
       ·refine z7 rfl rfl c14<|z7 rfl rfl c14<|z7 rfl rfl c14<|z7 rfl rfl c14<|z8 rfl rfl rfl<|z2 (zPf rfl c14 rfl)<|z2 (zPf rfl rfl rfl)<|z6 ?_
        exact ⟨_, zR4, zR1, zLe, by simp_all [termT] <;> omega⟩
    ·rintro u hu
     subst hu
     refine zy rfl (fun ct=>?_) (fun ct=>?_)
     ·have dt : termT f b.term = false := by simpa using ct
      refine zSr<|z2 (zAb rfl)<|z6<|zd<|zm (x := .bool _) rfl ?_
      rw [hbad (by unfold blkT; rw [hjall, hkall, dt]; rfl)]
     ·have dt : termT f b.term = true := by simpa using ct
      refine zf<|zRg<|z2 (zAd rfl rfl)<|z2 (zMi rfl)<|z6 ?_
      exact ⟨i + 1, zR3, zR1, zLe, ⟨hi2, all_take hi2 hall (by rw [hbi]; unfold blkT; rw [hjall, hkall, dt]; rfl)⟩, by omega⟩
 ·have hin : i = f.blocks.length := by simp at ci; omega
  rw [hin, qm] at hall
  refine y3<|zSr<|z2 (zAb rfl)<|z6<|zd<|zm (x := .bool _) rfl ?_
  rw [hall]
end Go.Proofs.YtjnpcfpecilejaaGreatDoor
namespace Go.Proofs.YtjnpcfpecilejaaGreatDoor
open Go.Proofs.Tryz
variable {α : Type}
def mg (k : Int) : List (Int × List α) → List α
 | [] => []
 | (k', r) :: es => if k = k' then r else mg k es
def ms (k : Int) (r : List α) : List (Int × List α) → List (Int × List α)
 | [] => [(k, r)]
 | (k', r') :: es => if k = k' then (k, r) :: es else (k', r') :: ms k r es
theorem mg_ms (k k' : Int) (r : List α) : ∀ es : List (Int × List α), mg k (ms k' r es) = if k = k' then r else mg k es
 | [] => by simp only [ms, mg]
 | (q, r') :: es => by
  simp only [ms]
  by_cases h : k' = q
  ·subst h
   rw [if_pos rfl]
   simp only [mg]
   by_cases h2 : k = k'
   ·rw [if_pos h2, if_pos h2]
   ·rw [if_neg h2, if_neg h2, if_neg h2]
  ·rw [if_neg h]
   simp only [mg]
   by_cases h2 : k = q
   ·rw [if_pos h2, if_pos h2, if_neg (fun e => h (by rw [← e, h2]))]
   ·rw [if_neg h2, if_neg h2]; exact mg_ms k k' r es
def kv (k : Int) : Value := .int .i64 k
theorem kv_key (k : Int) : MapKept.IsKey (.int .i64) (kv k) := rfl
theorem kv_now (k k' : Int) : Instr.sameNow (.int .i64) (kv k) (kv k') = some (decide (k = k')) := by
 simp [Instr.sameNow, kv]; by_cases h : k = k' <;> simp [h]
def ents (arr : Array MapEntry) : List (Value × Value) := arr.toList.map fun e => (e.key, e.val)
inductive MapR (c : Enc α) (e : TypeId) : List (Int × List α) → List (Value × Value) → List (Nat × Obj) → Prop
 | nil : MapR c e [] [] []
 | cons {k r es a n cap hs A B} : OwnS c.k e a n cap (c.vs r) A → MapR c e es hs B → MapR c e ((k, r) :: es) ((kv k, .slice a n cap) :: hs) (A ++ B)
def MHole (c : Enc α) (e : TypeId) (es : List (Int × List α)) (k : Int) (l : List MapEntry) (B : List (Nat × Obj)) : Prop :=
 (Instr.findNow (.int .i64) (kv k) l 0 = some none ∧ ∀ r' a' n' c' A', OwnS c.k e a' n' c' (c.vs r') A' → ∃ L', MapR c e (ms k r' es) (l.map (fun e => (e.key, e.val)) ++ [(kv k, .slice a' n' c')]) L' ∧ L'.Perm (A' ++ B)) ∨
 (∃ j v e0, Instr.findNow (.int .i64) (kv k) l 0 = some (some (j, v)) ∧ l[j]? = some e0 ∧ e0.key = kv k ∧ ∀ r' a' n' c' A', OwnS c.k e a' n' c' (c.vs r') A' → ∃ L', MapR c e (ms k r' es) ((l.map fun e => (e.key, e.val)).set j (kv k, .slice a' n' c')) L' ∧ L'.Perm (A' ++ B))
theorem MapR.get {c : Enc α} {e : TypeId} {k : Int} : ∀ {l : List MapEntry} {es : List (Int × List α)} {L : List (Nat × Obj)} (i : Nat), MapR c e es (l.map fun e => (e.key, e.val)) L →
  (Instr.findNow (.int .i64) (kv k) l i = some none ∧ mg k es = [] ∧ ∀ r' a' n' c' A', OwnS c.k e a' n' c' (c.vs r') A' → ∃ L', MapR c e (ms k r' es) (l.map (fun e => (e.key, e.val)) ++ [(kv k, .slice a' n' c')]) L' ∧ L'.Perm (A' ++ L)) ∨
  (∃ j e0 a n cap A B, Instr.findNow (.int .i64) (kv k) l i = some (some (i + j, .slice a n cap)) ∧ l[j]? = some e0 ∧ e0.key = kv k ∧ OwnS c.k e a n cap (c.vs (mg k es)) A ∧ L.Perm (A ++ B) ∧
   ∀ r' a' n' c' A', OwnS c.k e a' n' c' (c.vs r') A' → ∃ L', MapR c e (ms k r' es) ((l.map fun e => (e.key, e.val)).set j (kv k, .slice a' n' c')) L' ∧ L'.Perm (A' ++ B))
 | [], es, L, i, h => by
  cases h
  exact .inl ⟨rfl, rfl, fun r' a' n' c' A' h => ⟨_, by simpa [ms] using MapR.cons (k := k) h .nil, by simp⟩⟩
 | x :: l, es, L, i, h => by
  generalize hl : ((x :: l).map fun e => (e.key, e.val)) = hs0 at h
  cases h with
  | nil => simp at hl
  | @cons k1 r es a n cap hs A B h1 h2 =>
   simp only [List.map_cons, List.cons.injEq, Prod.mk.injEq] at hl
   obtain ⟨⟨hk, hv⟩, rfl⟩ := hl
   by_cases e1 : k = k1
   ·subst e1
    right
    refine ⟨0, x, a, n, cap, A, B, ?_, rfl, hk, by simpa [mg] using h1, .refl _, fun r' a' n' c' A' h => ⟨A' ++ B, ?_, .refl _⟩⟩
    ·unfold Instr.findNow; rw [hk, kv_now, qu rfl]; simp [hv]
    ·simp only [ms, if_pos, List.map_cons, List.set_cons_zero]
     exact .cons h h2
   ·have hf : Instr.findNow (.int .i64) (kv k) (x :: l) i = Instr.findNow (.int .i64) (kv k) l (i + 1) := by
     rw [Instr.findNow, hk, kv_now, qv e1]
    have hg : mg k ((k1, r) :: es) = mg k es := by simp [mg, e1]
    have hms : ∀ r', ms k r' ((k1, r) :: es) = (k1, r) :: ms k r' es := fun r' => by simp [ms, e1]
    rw [hf, hg]
    rcases MapR.get (k := k) (i + 1) h2 with ⟨g1, g2, g3⟩ | ⟨j, e0, a1, n1, c1, A1, B1, g1, g2, g3, g4, g5, g6⟩
    ·left
     refine ⟨g1, g2, fun r' a' n' c' A' h => ?_⟩
     obtain ⟨L', q1, q2⟩ := g3 r' a' n' c' A' h
     refine ⟨A ++ L', ?_, ?_⟩
     ·rw [hms, List.cons_append]; exact .cons h1 q1
     ·refine (q2.append_left A).trans ?_
      rw [← qj, ← qj]
      exact List.perm_append_comm.append_right B
    ·right
     refine ⟨j + 1, e0, a1, n1, c1, A1, A ++ B1, by rw [g1]; congr 3; omega, by simpa using g2, g3, g4, ?_, fun r' a' n' c' A' h => ?_⟩
     ·refine (g5.append_left A).trans ?_
      rw [← qj, ← qj]
      exact List.perm_append_comm.append_right B1
     ·obtain ⟨L', q1, q2⟩ := g6 r' a' n' c' A' h
      refine ⟨A ++ L', ?_, ?_⟩
      ·rw [hms, List.set_cons_succ]; exact .cons h1 q1
      ·refine (q2.append_left A).trans ?_
       rw [← qj, ← qj]
       exact List.perm_append_comm.append_right B1
def mnestO (c : Enc α) (e : TypeId) (b : Nat) (es : List (Int × List α)) : AObj := .heap fun L => ∃ arr clock B, L = (b, .map arr clock) :: B ∧ MapR c e es (ents arr) B
def mnestH (c : Enc α) (e : TypeId) (b : Nat) (es : List (Int × List α)) (k : Int) : AObj := .heap fun L => ∃ arr clock B, L = (b, .map arr clock) :: B ∧ MHole c e es k arr.toList B
section
variable {E : World} {P : Program} {ops : Array Oper} {K : AEnv → OL → Prop} {env : AEnv} {O O' O'' : OL} {rest : List Oper} {n : Nat}
variable {d ty : Nat} {pos : String} {af : Array Edge} {x y z : Operand} {t u e T kt : TypeId} {b : Nat}
theorem AOps.makeMapN (c : Enc α) (e : TypeId) (k : ∀ b, AOps P E ops K rest (aupd env d (mref b)) ((0, mnestO c e b []) :: O)) : AOps P E ops K (Oper.mk (some d) (.makeMap t none) ty pos af none :: rest) env O := fun I F ρ w h1 ⟨ht, L, hL, hS⟩ => by
 refine Ops.step rfl ?_
 unfold OpW
 have : (execOp (Go.Proofs.YtjnpcfpecilejaaGreatDoor.ev ρ) (Oper.mk (some d) (.makeMap t none) ty pos af none)).run P w = .ok (.value (.map (some w.heap.size))) (w.alloc (.map #[] 0)) := by
  simp only [execOp, Option.map_none]
  rw [Sem.run_bind, run_makeMap_plain]; rfl
 rw [this]
 exact k w.heap.size I F _ _ (h1.upd d rfl) ⟨ht, (w.heap.size, .map #[] 0) :: L, ⟨[_], L, rfl, ⟨#[], 0, [], rfl, .nil⟩, hL⟩, hS.alloc _⟩
theorem AOps.mapTake {c : Enc α} {k : Int} {m : Nat} {es : List (Int × List α)} (ht : P.underlying t = some (.map kt u)) (hk : P.underlying kt = some (.int .i64)) (hz : ∀ w, (zeroValue u).run P w = .ok (.slice none 0 0) w) (hx : aev env x = mref b) (hy : aev env y = .int .i64 k)
  (hO : Put O m (mnestO c e b es) (mnestH c e b es k) O') (kk : ∀ i, AOps P E ops K rest (aupd env d (.own i (mg k es).length)) ((i, .grow c.k e (c.av (mg k es))) :: O')) :
  AOps P E ops K (Oper.mk (some d) (.lookup t x y false) ty pos af none :: rest) env O := fun I F ρ w h1 h2 => by
 obtain ⟨i, hi⟩ := h2.name
 obtain ⟨htop, L, hL, hS⟩ := h2
 have hx := evRaw h1 hx
 have hy := evI h1 hy
 obtain ⟨A, B, hp, ⟨arr, clock, B0, rfl, hN⟩, hback⟩ := hO.rep hL
 have hS2 : SL I.k ((b, .map arr clock) :: (B0 ++ (B ++ F))) E w := hS.perm (by
  have := hp.append_right F
  simpa using this.symm)
 have hb := hS2.own _ (.head _)
 simp only at hb
 have hc : (Instr.checkKey arr.isEmpty 10000 kt (kv k)).run P w = .ok () w := MapKept.run_checkKey (k := kv k) hk (kv_key k) _ 9999
 rcases MapR.get (k := k) 0 hN with ⟨g1, g2, g3⟩ | ⟨j, e0, a, n1, cap, A1, B1, g1, g2, g3, g4, g5, g6⟩
 ·obtain ⟨J, e1, hle, e2, htop'⟩ := hi (none, 0)
  refine Ops.step rfl ?_
  unfold OpW
  have hrun : (execOp (Go.Proofs.YtjnpcfpecilejaaGreatDoor.ev ρ) (Oper.mk (some d) (.lookup t x y false) ty pos af none)).run P w = .ok (.value (.slice none 0 0)) w := by
   simp only [kv] at hc g1
   simp [execOp, Instr.lookup, run_underlying ht, hx, hy, MapKept.run_getObj_map hb, hc, MapKept.run_findKey hk g1, hz, Result.andThen]
  rw [hrun]
  obtain ⟨L', h5, h6⟩ := hback hle (A' := (b, .map arr clock) :: B0) ⟨arr, clock, B0, rfl, .inl ⟨g1, g3⟩⟩
  rw [g2] at kk
  refine yy (fun _ _ => postK.up hle) _ _ _ (kk i J F _ _ ((h1.mono hle).upd d ⟨none, 0, e2, rfl⟩) ⟨htop', L', ⟨[], L', rfl, ⟨none, 0, 0, [], e2, rfl, fun _ h => (by cases h), OwnS.nil _ _⟩, h5⟩, ?_⟩)
  rw [e1]
  refine hS2.perm<|(h6.append_right F).trans ?_
  simp
 ·obtain ⟨b1, rfl⟩ := g4.adr
  have hn : n1 = (mg k es).length := by have := g4.1; rw [c.vs_len] at this; exact (Nat.eq_of_mul_eq_mul_right c.pos this).symm
  subst hn
  obtain ⟨J, e1, hle, e2, htop'⟩ := hi (b1, cap)
  rw [Nat.zero_add] at g1
  refine Ops.step rfl ?_
  unfold OpW
  have hrun : (execOp (Go.Proofs.YtjnpcfpecilejaaGreatDoor.ev ρ) (Oper.mk (some d) (.lookup t x y false) ty pos af none)).run P w = .ok (.value (.slice (adr b1) (mg k es).length cap)) w := by
   simp only [kv] at hc g1
   simp [execOp, Instr.lookup, run_underlying ht, hx, hy, MapKept.run_getObj_map hb, hc, MapKept.run_findKey hk g1, Result.andThen]
  rw [hrun]
  obtain ⟨L', h5, h6⟩ := hback hle (A' := (b, .map arr clock) :: B1) ⟨arr, clock, B1, rfl, .inr ⟨j, _, e0, g1, g2, g3, g6⟩⟩
  refine yy (fun _ _ => postK.up hle) _ _ _ (kk i J F _ _ ((h1.mono hle).upd d ⟨b1, cap, e2, rfl⟩) ⟨htop', A1 ++ L', ⟨A1, L', rfl, ⟨b1, cap, _, c.vs (mg k es), e2, by rw [c.av_eq]; exact lit_reps J _, c.vs_one _, g4⟩, h5⟩, ?_⟩)
  rw [e1]
  refine hS2.perm<|List.Perm.trans ?_ (List.Perm.cons _ ((g5.append_right (B ++ F)).symm))
  have h7 : (A1 ++ L' ++ F).Perm (A1 ++ ((b, Obj.map arr clock) :: (B1 ++ B)) ++ F) := (h6.append_left A1).append_right F
  refine h7.trans ?_
  simp only [qj, List.cons_append]
  exact List.perm_middle
theorem AOps.mapPut {c : Enc α} {k : Int} {m i n1 q : Nat} {es : List (Int × List α)} {r : List α} {cs : List AV} (ht : P.underlying t = some (.map kt u)) (hk : P.underlying kt = some (.int .i64)) (hx : aev env x = mref b) (hy : aev env y = .int .i64 k) (hz : aev env z = .own i n1)
  (hP0 : Pick O i (.grow q e cs) O') (hO : Put O' m (mnestH c e b es k) (mnestO c e b (ms k r es)) O'') (hq : q = c.k) (hcs : cs = c.av r) (hn1 : r.length = n1) (kk : AOps P E ops K rest env O'') :
  AOps P E ops K (Oper.mk none (.mapUpdate t x y z) ty pos af none :: rest) env O := fun I F ρ w h1 h2 => by
 obtain ⟨htop, L, hL, hS⟩ := h2
 have hP : Pick O i (.grow c.k e (c.av r)) O' := by subst hq hcs; exact hP0
 have hx := evRaw h1 hx
 have hy := evI h1 hy
 have h3 := h1.ev z
 rw [hz] at h3
 obtain ⟨b1, c1, e1, ez⟩ := h3
 obtain ⟨A, B, hp, ⟨b1', c1', n', vs, e2, hvs, hvc, hown⟩, hB⟩ := hP.rep hL
 simp only at e2
 rw [e1] at e2
 simp only [Option.some.injEq, Prod.mk.injEq] at e2
 obtain ⟨rfl, rfl⟩ := e2
 have hv := c.av_un hvs
 subst hv
 have hnn : n' = n1 := by have := hown.1; rw [c.vs_len, hn1] at this; exact (Nat.eq_of_mul_eq_mul_right c.pos this).symm
 subst hnn
 obtain ⟨A2, B2, hp2, ⟨arr, clock, B0, rfl, hole⟩, hback⟩ := hO.rep hB
 have hS2 : SL I.k ((b, .map arr clock) :: (A ++ (B0 ++ (B2 ++ F)))) E w := hS.perm (by
  refine List.Perm.trans ?_ ((hp.append_right F).symm)
  refine List.Perm.trans ?_ (((hp2.append_left A).append_right F).symm)
  simp only [qj, List.cons_append]
  exact (List.perm_middle).symm)
 have hb := hS2.own _ (.head _)
 simp only at hb
 have hc : (Instr.checkKey false 10000 kt (kv k)).run P w = .ok () w := MapKept.run_checkKey (k := kv k) hk (kv_key k) false 9999
 have fin : ∀ (arr' : Array MapEntry) (clock' : Nat) (L' : List (Nat × Obj)), MapR c e (ms k r es) (ents arr') L' → L'.Perm (A ++ B0) →
   (execOp (Go.Proofs.YtjnpcfpecilejaaGreatDoor.ev ρ) (Oper.mk none (.mapUpdate t x y z) ty pos af none)).run P w = .ok .skip { w with heap := w.heap.setIfInBounds b (.map arr' clock') } → Ops P ops (postK I F E K) (Oper.mk none (.mapUpdate t x y z) ty pos af none :: rest) ρ w := fun arr' clock' L' hM hpe hrun => by
  refine Ops.step rfl ?_
  unfold OpW
  rw [hrun]
  obtain ⟨L2, h7, h8⟩ := hback (qg I) (A' := (b, .map arr' clock') :: L') ⟨arr', clock', L', rfl, hM⟩
  have hh := MapKept.heap_set (o' := .map arr' clock') hb
  have hS3 : SL I.k ((b, .map arr' clock') :: (A ++ (B0 ++ (B2 ++ F)))) E { w with heap := w.heap.setIfInBounds b (.map arr' clock') } := hS2.turn rfl rfl rfl hh.1 hh.2
  refine kk I F ρ _ h1 ⟨htop, L2, h7, hS3.perm ?_⟩
  refine (h8.append_right F).trans ?_
  simp only [List.cons_append, qj]
  refine List.Perm.cons _ ?_
  have := hpe.append_right (B2 ++ F)
  simpa [qj] using this
 rcases hole with ⟨g1, g3⟩ | ⟨j, v0, e0, g1, g2, g3, g6⟩
 ·obtain ⟨L', k1, k2⟩ := g3 r _ _ _ A hown
  refine fin (arr.push { key := kv k, val := .slice (adr b1) n' c1, born := clock }) (clock + 1) L' ?_ k2 ?_
  ·unfold ents; simpa using k1
  ·simp only [kv] at hc g1
   simp [execOp, hx, hy, ez, Instr.mapUpdate, run_underlying ht, MapKept.run_getObj_map hb, hc, MapKept.run_findKey hk g1, MapKept.run_setObj_map _ hb, Result.andThen, kv]
 ·obtain ⟨L', k1, k2⟩ := g6 r _ _ _ A hown
  have hj' : arr[j]? = some e0 := by rw [← Array.getElem?_toList]; exact g2
  refine fin (arr.modify j fun e => { e with key := kv k, val := .slice (adr b1) n' c1 }) clock L' ?_ k2 ?_
  ·have hjl : j < arr.toList.length := (List.getElem?_eq_some_iff.1 g2).1
   have : (arr.modify j fun e => { e with key := kv k, val := .slice (adr b1) n' c1 }).toList = arr.toList.set j { e0 with key := kv k, val := .slice (adr b1) n' c1 } := by
    apply List.ext_getElem?
    intro q
    rw [Array.getElem?_toList, Array.getElem?_modify]
    by_cases hq : j = q
    ·subst hq
     rw [if_pos rfl, hj', List.getElem?_set_self hjl]; rfl
    ·rw [if_neg hq, List.getElem?_set_ne hq, Array.getElem?_toList]
   unfold ents
   rw [this, List.map_set]; exact k1
  ·have hkeep : (Instr.keyThatStays (kv k) (kv k)).run P w = .ok (kv k) w := MapKept.run_keyThatStays (kv_key k)
   simp only [kv] at hc g1 g3 hkeep
   simp [execOp, hx, hy, ez, Instr.mapUpdate, run_underlying ht, MapKept.run_getObj_map hb, hc, MapKept.run_findKey hk g1, MapKept.run_setObj_map _ hb, Result.andThen, hj', g3, hkeep, kv]
def FroM (c : Enc α) (I : G) : List (Int × List α) → List (Value × Value) → Prop
 | [], hs => hs = []
 | (k, r) :: es, hs => ∃ v hs', hs = (kv k, v) :: hs' ∧ RepV I (.fro c.k (r.map c.row)) v ∧ FroM c I es hs'
theorem FroM.mono {c : Enc α} {I J : G} (h : I.le J) : ∀ {es : List (Int × List α)} {hs : List (Value × Value)}, FroM c I es hs → FroM c J es hs
 | [], _, e => e
 | (_, _) :: _, _, ⟨v, hs', e, h1, h2⟩ => ⟨v, hs', e, RepV.mono h _ _ h1, FroM.mono h h2⟩
theorem MapR.fro {c : Enc α} {I : G} {e : TypeId} {es : List (Int × List α)} {hs : List (Value × Value)} {B : List (Nat × Obj)} (h : MapR c e es hs B) (hI : ∀ x ∈ B, I.k x.1 = some x.2) : FroM c I es hs := by
 induction h with
 | nil => rfl
 | cons h1 _ ih => exact ⟨_, _, rfl, h1.fro fun x hx => hI x (List.mem_append_left _ hx), ih fun x hx => hI x (List.mem_append_right _ hx)⟩
theorem FroM.get {c : Enc α} {I : G} {k : Int} : ∀ {l : List MapEntry} {es : List (Int × List α)} (i : Nat), FroM c I es (l.map fun e => (e.key, e.val)) →
  (Instr.findNow (.int .i64) (kv k) l i = some none ∧ mg k es = []) ∨ (∃ j v, Instr.findNow (.int .i64) (kv k) l i = some (some (j, v)) ∧ RepV I (.fro c.k ((mg k es).map c.row)) v)
 | [], [], i, _ => .inl ⟨rfl, rfl⟩
 | _ :: _, [], _, h => by cases h
 | [], (_, _) :: _, _, ⟨_, _, e, _⟩ => by cases e
 | x :: l, (k1, r) :: es, i, ⟨v, hs', e, h1, h2⟩ => by
  simp only [List.map_cons, List.cons.injEq, Prod.mk.injEq] at e
  obtain ⟨⟨hk, hv⟩, rfl⟩ := e
  by_cases e1 : k = k1
  ·subst e1
   right
   refine ⟨i, v, ?_, by simpa [mg] using h1⟩
   unfold Instr.findNow; rw [hk, kv_now, qu rfl]; simp [hv]
  ·have hf : Instr.findNow (.int .i64) (kv k) (x :: l) i = Instr.findNow (.int .i64) (kv k) l (i + 1) := by
    rw [Instr.findNow, hk, kv_now, qv e1]
   rw [hf, show mg k ((k1, r) :: es) = mg k es by simp [mg, e1]]
   exact FroM.get (i + 1) h2
def mfroO (c : Enc α) (b : Nat) (es : List (Int × List α)) : AObj := .heapG (fun I L => ∃ arr clock, L = [(b, .map arr clock)] ∧ FroM c I es (ents arr)) fun I J L h hp => by
 obtain ⟨arr, clock, h1, h2⟩ := hp; exact ⟨arr, clock, h1, h2.mono h⟩
theorem GStep.mapKnow {c : Enc α} {m : Nat} {es : List (Int × List α)} (hO : Put O m (mnestO c e b es) (mfroO c b es) O') : GStep E env O env O' := fun I F ρ w h1 h2 => by
 obtain ⟨htop, L, hL, hS⟩ := h2
 obtain ⟨A, B, hp, ⟨arr, clock, B0, rfl, hN⟩, hback⟩ := hO.rep hL
 have hS2 : SL I.k (B0 ++ ((b, .map arr clock) :: (B ++ F))) E w := hS.perm (by
  refine List.Perm.trans ?_ ((hp.append_right F).symm)
  simp only [List.cons_append, qj]
  exact List.perm_middle)
 obtain ⟨J, g1, g2, g3⟩ := SL.freezeAllN hS2
 have hle : I.le ⟨J, I.h⟩ := ⟨g1, fun _ _ h => h⟩
 obtain ⟨L', h5, h6⟩ := hback hle (A' := [(b, .map arr clock)]) ⟨arr, clock, rfl, hN.fro fun x hx => g3 x hx⟩
 refine ⟨⟨J, I.h⟩, hle, h1.mono hle, htop, L', h5, g2.perm ?_⟩
 exact h6.append_right F
theorem Gv.lookupF {c : Enc α} {k : Int} {m : Nat} {es : List (Int × List α)} (ht : P.underlying t = some (.map kt u)) (hk : P.underlying kt = some (.int .i64)) (hz : ∀ w, (zeroValue u).run P w = .ok (.slice none 0 0) w) (hx : aev env x = mref b) (hy : aev env y = .int .i64 k)
  (hO : Has O m (mfroO c b es)) : Gv P env O (Oper.mk (some d) (.lookup t x y false) ty pos af none) (.fro c.k ((mg k es).map c.row)) := fun I L E ρ h1 hL => by
 obtain ⟨O', hO⟩ := hO
 obtain ⟨A, B, hp, ⟨arr, clock, rfl, hM⟩, _⟩ := hO.rep hL
 have hin0 : (b, Obj.map arr clock) ∈ L := hp.mem_iff.2 (by simp)
 have hx := evRaw h1 hx
 have hy := evI h1 hy
 rcases FroM.get (k := k) 0 hM with ⟨g1, g2⟩ | ⟨j, v, g1, g2⟩
 ·refine ⟨.slice none 0 0, by rw [g2]; exact ⟨none, 0, 0, rfl, rfl, Nat.le_refl _, fun _ => rfl, trivial⟩, fun w J L' hl hS hin => ?_⟩
  have hb := hS.own _ (hin _ hin0)
  simp only at hb
  have hc : (Instr.checkKey arr.isEmpty 10000 kt (kv k)).run P w = .ok () w := MapKept.run_checkKey (k := kv k) hk (kv_key k) _ 9999
  simp only [kv] at hc g1
  simp [execOp, Instr.lookup, run_underlying ht, hx, hy, MapKept.run_getObj_map hb, hc, MapKept.run_findKey hk g1, hz, Result.andThen]
 ·refine ⟨v, g2, fun w J L' hl hS hin => ?_⟩
  have hb := hS.own _ (hin _ hin0)
  simp only at hb
  have hc : (Instr.checkKey arr.isEmpty 10000 kt (kv k)).run P w = .ok () w := MapKept.run_checkKey (k := kv k) hk (kv_key k) _ 9999
  simp only [kv] at hc g1
  simp [execOp, Instr.lookup, run_underlying ht, hx, hy, MapKept.run_getObj_map hb, hc, MapKept.run_findKey hk g1, Result.andThen]
end
end Go.Proofs.YtjnpcfpecilejaaGreatDoor
namespace Go.Proofs.YtjnpcfpecilejaaGreatDoor
open Go.Proofs.Tryz
open Go.Proofs
def lC (l : List Rng) : List AV := eP.av l
theorem lC_len (l : List Rng) : (lC l).length = l.length * 2 := eP.av_len l
theorem lC_push (l : List Rng) (r : Rng) : lC l ++ encZ r = lC (l ++ [r]) := eP.av_push l r
theorem lC_cons (r : Rng) (l : List Rng) : lC (r :: l) = .int .i64 r.1 :: .int .i64 r.2 :: lC l := rfl
theorem lC_drop : ∀ (l : List Rng) (j : Nat), (lC l).drop (j * 2) = lC (l.drop j)
 | l, 0 => by simp
 | [], j + 1 => by simp [lC, Enc.av]
 | r :: l, j + 1 => by
  rw [show (j + 1) * 2 = j * 2 + 1 + 1 by omega, lC_cons, List.drop_succ_cons, List.drop_succ_cons, lC_drop l j, List.drop_succ_cons]
theorem lC_get {l : List Rng} {j : Nat} {r : Rng} (h : l[j]? = some r) : (lC l).drop (j * 2) = .int .i64 r.1 :: .int .i64 r.2 :: lC (l.drop (j + 1)) := by
 obtain ⟨hj, e⟩ := List.getElem?_eq_some_iff.1 h
 rw [lC_drop, List.drop_eq_getElem_cons hj, e, lC_cons]
theorem lC_take : ∀ (l : List Rng) (j : Nat), (lC l).take (j * 2) = lC (l.take j)
 | l, 0 => by simp [lC, Enc.av]
 | [], j + 1 => by simp [lC, Enc.av]
 | r :: l, j + 1 => by
  rw [show (j + 1) * 2 = j * 2 + 1 + 1 by omega, lC_cons, List.take_succ_cons, List.take_succ_cons, lC_take l j, List.take_succ_cons, lC_cons]
theorem lC_set {l : List Rng} {j : Nat} (h : j < l.length) (r : Rng) : (lC l).take (j * 2) ++ encZ r ++ (lC l).drop (j * 2 + 2) = lC (l.set j r) := by
 rw [show j * 2 + 2 = (j + 1) * 2 by omega, lC_take, lC_drop, lC_push, List.set_eq_take_append_cons_drop, if_pos h]
 unfold lC
 rw [eP.av_app]; simp
theorem lC_ne {l : List Rng} {j : Nat} (h : j < l.length) : lC l ≠ [] := fun e => by have := lC_len l; rw [e] at this; simp at this; omega
section
variable {E : World} {P : Program} {ops : Array Oper} {K : AEnv → OL → Prop} {env : AEnv} {O O' O'' : OL} {rest : List Oper} {n : Nat}
variable {d ty : Nat} {pos : String} {af : Array Edge} {x y z : Operand} {t u e T : TypeId}
theorem Gv.idxR {i n j : Nat} {a : Int} {T : TypeId} {l : List Rng} (ht : P.underlying t = some (.slice e)) (hs : ∀ w, (sizeOf e).run P w = .ok 2 w) (hx : aev env x = .own i n) (hy : aev env y = .int .i64 a) (hi : a = (j : Int)) (hO : Has O i (.grow 2 T (lC l))) (hn : l.length = n) (hj : j < n) :
  Gv P env O (Oper.mk (some d) (.indexAddr t x y) ty pos af none) (.po i (j * 2)) := Gv.idxO ht hs hx hy hi hO (lC_ne (j := j) (by omega)) hj
theorem Gv.loadR {i j : Nat} {T : TypeId} {l : List Rng} {r : Rng} (ha : ∀ w, (isAgg t).run P w = .ok true w) (hs : ∀ w, (sizeOf t).run P w = .ok 2 w) (hx : aev env x = .po i (j * 2)) (hO : Has O i (.grow 2 T (lC l))) (hv : l[j]? = some r) :
  Gv P env O (Oper.mk (some d) (.load t x) ty pos af none) (.agg (encZ r)) := by
 have hj := (List.getElem?_eq_some_iff.1 hv).1
 exact Gv.loadAG ha hs hx hO (lC_ne hj) (by rw [lC_len]; omega) (by rw [lC_get hv]; rfl)
theorem Gv.loadR0 {i j : Nat} {T : TypeId} {l : List Rng} {r : Rng} (ha : ∀ w, (isAgg t).run P w = .ok false w) (hx : aev env x = .po i (j * 2 + 0)) (hO : Has O i (.grow 2 T (lC l))) (hv : l[j]? = some r) :
  Gv P env O (Oper.mk (some d) (.load t x) ty pos af none) (.int .i64 r.1) := Gv.load1G ha hx hO (lC_get hv)
theorem Gv.loadR1 {i j : Nat} {T : TypeId} {l : List Rng} {r : Rng} (ha : ∀ w, (isAgg t).run P w = .ok false w) (hx : aev env x = .po i (j * 2 + 1)) (hO : Has O i (.grow 2 T (lC l))) (hv : l[j]? = some r) :
  Gv P env O (Oper.mk (some d) (.load t x) ty pos af none) (.int .i64 r.2) := Gv.load1G (cs := lC l) (tl := lC (l.drop (j + 1))) ha hx hO (by rw [← List.drop_drop, lC_get hv]; rfl)
theorem AOps.storeR {i j : Nat} {T : TypeId} {l : List Rng} {r : Rng} (hs : ∀ w, (sizeOf t).run P w = .ok 2 w) (hx : aev env x = .po i (j * 2)) (hy : aev env y = .agg (encZ r)) (hO : Put O i (.grow 2 T (lC l)) (.grow 2 T (lC (l.set j r))) O') (hb : j < l.length)
  (kk : AOps P E ops K rest env O') : AOps P E ops K (Oper.mk none (.store t x y) ty pos af none :: rest) env O :=
 AOps.storeG hs hx hy rfl rfl rfl rfl hO (by rw [lC_len]; omega) (by decide) (lC_set hb r) kk
theorem GStep.knowR {t i m : Nat} {T : TypeId} {l : List Rng} (hv : env t = .own i m) (hO : Pick O i (.grow 2 T (lC l)) O') (hm : l.length = m) : GStep E env O (aupd env t (.fro 2 (l.map encZ))) O' :=
 GStep.know hv (rows := l.map encZ) (by
  have : (l.map encZ).flatten = lC l := by unfold lC Enc.av; rw [List.flatMap]; rfl
  rw [this]; exact hO) (fun r hr => by obtain ⟨_, _, rfl⟩ := List.mem_map.1 hr; rfl) (by decide) (by rw [qo]; exact hm)
end
structure RdL (P : Program) (te ee : TypeId) (Lv : AV) (ptr : Nat → AV) (i : Nat) (HL : AObj) (l : List Rng) : Prop where
 idx : ∀ {env : AEnv} {O : OL} {d ty : Nat} {pos : String} {af : Array Edge} {x y : Operand} {a : Int} {j : Nat}, aev env x = Lv → aev env y = .int .i64 a → a = (j : Int) → j < l.length → Has O i HL → Gv P env O (Oper.mk (some d) (.indexAddr te x y) ty pos af none) (ptr j)
 load : ∀ {env : AEnv} {O : OL} {d ty : Nat} {pos : String} {af : Array Edge} {x : Operand} {j : Nat} {r : Rng}, aev env x = ptr j → l[j]? = some r → Has O i HL → Gv P env O (Oper.mk (some d) (.load ee x) ty pos af none) (.agg (encZ r))
def ptrF (l : List Rng) (j : Nat) : AV := .pf (encZ ((l[j]?).getD noR))
def ptrO (i : Nat) (j : Nat) : AV := .po i (j * 2)
theorem RdL.fro {P : Program} {te ee : TypeId} (ht : P.underlying te = some (.slice ee)) (hs : ∀ w, (sizeOf ee).run P w = .ok 2 w) (ha : ∀ w, (isAgg ee).run P w = .ok true w) (i : Nat) (HL : AObj) (l : List Rng) : RdL P te ee (.fro 2 (l.map encZ)) (ptrF l) i HL l where
 idx hx hy hi hj _ := q4 ht hs hx hy hi (by rw [qh hj]; rfl)
 load hx hv _ := zh ha hs (cs := encZ _) (by rw [hx]; unfold ptrF; rw [hv]; rfl) rfl
theorem RdL.own {P : Program} {te ee : TypeId} (ht : P.underlying te = some (.slice ee)) (hs : ∀ w, (sizeOf ee).run P w = .ok 2 w) (ha : ∀ w, (isAgg ee).run P w = .ok true w) (i : Nat) (T : TypeId) (l : List Rng) (n : Nat) (hn : l.length = n) : RdL P te ee (.own i n) (ptrO i) i (.grow 2 T (lC l)) l where
 idx hx hy hi hj hO := Gv.idxR ht hs hx hy hi hO hn (by omega)
 load hx hv hO := Gv.loadR ha hs hx hO hv
def emptyO : AObj := .heap fun L => L = []
theorem ACall.ofEmpty {P : Program} {E : World} {f : FuncId} {args : List AV} {x : AV} {i : Nat} (h : ACall P E f args [(i, emptyO)] fun r O => r = x ∧ O = [(i, emptyO)]) : AFun P E f args x := fun I F w vs h1 ⟨ht, L, hL, hS⟩ =>
 (h I F w vs h1 ⟨ht, L, ⟨[], L, rfl, rfl, hL⟩, hS⟩).mono fun _ _ ⟨J, y, O', a, b, c, d⟩ => ⟨J, y, O', a, b, c, d.1⟩
end Go.Proofs.YtjnpcfpecilejaaGreatDoor
namespace Go.Proofs.YtjnpcfpecilejaaGreatDoor
open Go.Proofs.Tryz
def lv (l : List Rng) (v : Int) : Rng := (l[v.toNat]?).getD noR
theorem lv_set {l : List Rng} {v : Int} (h0 : 0 ≤ v) (h : v.toNat < l.length) (r : Rng) {u : Int} (hu : 0 ≤ u) : lv (l.set v.toNat r) u = if u = v then r else lv l u := by
 unfold lv
 by_cases e : u = v
 ·subst e; rw [if_pos rfl, List.getElem?_set_self h]; rfl
 ·rw [if_neg e, List.getElem?_set_ne (by omega)]
def nrm (r : Rng) : Prop := r.2 < r.1 → r = noR
def rsz (r : Rng) : Nat := if r.2 < r.1 then 0 else (r.2 - r.1 + 1).toNat
theorem rsz_le {r : Rng} (h : ok64 r) : rsz r ≤ 18446744073709551616 := by
 have h1 := h.1; have h2 := h.2
 unfold is64 at h1 h2
 unfold rsz; split <;> omega
theorem rsz_lt {r s : Rng} (hr : nrm r) (hs : nrm s) (h : rSub r s) (hne : s ≠ r) : rsz r < rsz s := by
 unfold rsz
 by_cases c : r.2 < r.1
 ·rw [if_pos c]
  by_cases c2 : s.2 < s.1
  ·exact absurd ((hs c2).trans (hr c).symm) hne
  ·rw [if_neg c2]; omega
 ·rw [if_neg c]
  rcases h with h | h
  ·exact absurd h c
  ·have hne2 : ¬ (s.1 = r.1 ∧ s.2 = r.2) := fun e => hne (Prod.ext e.1 e.2)
   rw [if_neg (by omega)]; omega
theorem rMade_nrm (lo hi : Int) : nrm (rMade lo hi) := by
 unfold rMade nrm; split
 ·exact fun _ => rfl
 ·rename_i h; exact fun h2 => absurd h2 h
theorem rMeet_nrm (a b : Rng) : nrm (rMeet a b) := rMade_nrm _ _
theorem rJoin_nrm {a b : Rng} (ha : nrm a) : nrm (rJoin a b) := by
 unfold rJoin
 by_cases c : a.2 < a.1
 ·rw [if_pos c]; exact rMade_nrm _ _
 ·rw [if_neg c]
  by_cases c2 : b.2 < b.1
  ·rw [if_pos c2]; exact ha
  ·rw [if_neg c2]
   intro h
   exfalso
   dsimp only at h
   unfold imin imax at h
   (repeat' split at h) <;> omega
theorem rJoin_l {a b : Rng} : rSub a (rJoin a b) := by
 unfold rJoin rSub
 by_cases c : a.2 < a.1
 ·exact .inl c
 ·rw [if_neg c]
  right
  by_cases c2 : b.2 < b.1
  ·rw [if_pos c2]; exact ⟨Int.le_refl _, Int.le_refl _⟩
  ·rw [if_neg c2]; dsimp only; unfold imin imax; constructor <;> split <;> omega
theorem rJoin_r {a b : Rng} : rSub b (rJoin a b) := by
 unfold rJoin rSub
 by_cases c2 : b.2 < b.1
 ·exact .inl c2
 ·right
  by_cases c : a.2 < a.1
  ·rw [if_pos c]; unfold rMade; rw [if_neg c2]; exact ⟨Int.le_refl _, Int.le_refl _⟩
  ·rw [if_neg c, if_neg c2]; dsimp only; unfold imin imax; constructor <;> split <;> omega
def widQ (t : Rng) (a b : Rng) : Rng :=
 let j := rJoin a b
 if a.2 < a.1 then j else (if j.1 < a.1 ∧ t.1 ≤ t.2 then imin j.1 t.1 else j.1, if a.2 < j.2 ∧ t.1 ≤ t.2 then imax j.2 t.2 else j.2)
theorem widQ_sub {t a b : Rng} : rSub (rJoin a b) (widQ t a b) := by
 unfold widQ
 dsimp only
 split
 ·exact rSub.refl _
 ·right
  dsimp only
  unfold imin imax
  constructor <;> (repeat' split) <;> omega
theorem widQ_nrm {t a b : Rng} (ha : nrm a) : nrm (widQ t a b) := by
 by_cases c : a.2 < a.1
 ·unfold widQ; dsimp only; rw [if_pos c]; exact rJoin_nrm ha
 ·have h1 := rJoin_l (a := a) (b := b)
  have h2 := (h1.trans (widQ_sub (t := t)))
  intro h
  rcases h2 with h2 | h2
  ·exact absurd h2 c
  ·omega
theorem widQ_ok {t a b : Rng} (ht : ok64 t) (ha : ok64 a) (hb : ok64 b) : ok64 (widQ t a b) := by
 have hj := rJoin_ok ha hb
 unfold widQ
 dsimp only
 split
 ·exact hj
 ·constructor
  ·dsimp only; split
   ·exact imin_ok hj.1 ht.1
   ·exact hj.1
  ·dsimp only; split
   ·exact imax_ok hj.2 ht.2
   ·exact hj.2
structure Rules (n : Nat) (rule : List Rng → Int → Rng) (vs : List Int) : Prop where
 mono : ∀ l l' v, l.length = n → l'.length = n → (∀ u : Int, 0 ≤ u → rSub (lv l u) (lv l' u)) → (∀ u : Int, 0 ≤ u → ok64 (lv l u)) → (∀ u : Int, 0 ≤ u → ok64 (lv l' u)) → v ∈ vs → rSub (rule l v) (rule l' v)
 ok : ∀ l v, l.length = n → (∀ u : Int, 0 ≤ u → ok64 (lv l u)) → v ∈ vs → ok64 (rule l v)
 rng : ∀ v ∈ vs, 0 ≤ v ∧ v < n
def PostR (rule : List Rng → Int → Rng) (vs : List Int) (l : List Rng) : Prop := ∀ v ∈ vs, rSub (rule l v) (lv l v)
def okL64 (n : Nat) (l : List Rng) : Prop := l.length = n ∧ ∀ u : Int, 0 ≤ u → ok64 (lv l u)
theorem meet_sub {a b : Rng} : rSub (rMeet a b) a ∧ rSub (rMeet a b) b := by
 unfold rMeet rMade rSub
 split
 ·exact ⟨.inl (by decide), .inl (by decide)⟩
 ·constructor <;> right <;> dsimp only <;> unfold imin imax <;> constructor <;> split <;> omega
theorem sub_meet {r a b : Rng} (h1 : rSub r a) (h2 : rSub r b) : rSub r (rMeet a b) := by
 by_cases c : r.2 < r.1
 ·exact .inl c
 ·right
  rcases h1 with h1 | h1
  ·exact absurd h1 c
  ·rcases h2 with h2 | h2
   ·exact absurd h2 c
   ·unfold rMeet rMade
    have : ¬ imin a.2 b.2 < imax a.1 b.1 := by unfold imin imax; (repeat' split) <;> omega
    rw [if_neg this]; dsimp only; unfold imin imax; constructor <;> split <;> omega
def narrow (rule : List Rng → Int → Rng) (l : List Rng) (v : Int) : List Rng := l.set v.toNat (rMeet (lv l v) (rule l v))
theorem narrow_ok {n : Nat} {rule : List Rng → Int → Rng} {vs : List Int} (hR : Rules n rule vs) {l : List Rng} (hl : okL64 n l) {v : Int} (hv : v ∈ vs) : okL64 n (narrow rule l v) := by
 have hr := hR.rng v hv
 refine ⟨by unfold narrow; rw [List.length_set]; exact hl.1, fun u hu => ?_⟩
 unfold narrow
 rw [lv_set hr.1 (by rw [hl.1]; omega) _ hu]
 split
 ·exact rMeet_ok (hl.2 v hr.1) (hR.ok l v hl.1 hl.2 hv)
 ·exact hl.2 u hu
theorem narrow_post {n : Nat} {rule : List Rng → Int → Rng} {vs : List Int} (hR : Rules n rule vs) {l : List Rng} (hl : okL64 n l) (hp : PostR rule vs l) {v : Int} (hv : v ∈ vs) : PostR rule vs (narrow rule l v) := by
 have hr := hR.rng v hv
 have hlen : v.toNat < l.length := by rw [hl.1]; omega
 have hless : ∀ u : Int, 0 ≤ u → rSub (lv (narrow rule l v) u) (lv l u) := fun u hu => by
  unfold narrow
  rw [lv_set hr.1 hlen _ hu]
  split
  ·rename_i e; rw [e]; exact meet_sub.1
  ·exact rSub.refl _
 have hn := narrow_ok hR hl hv
 intro u hu
 have hur := hR.rng u hu
 have h1 := hR.mono (narrow rule l v) l u hn.1 hl.1 hless hn.2 hl.2 hu
 unfold narrow
 rw [lv_set hr.1 hlen _ hur.1]
 by_cases e : u = v
 ·rw [if_pos e]
  subst e
  exact sub_meet (h1.trans (hp u hu)) h1
 ·rw [if_neg e]
  exact h1.trans (hp u hu)
theorem narrow_all {n : Nat} {rule : List Rng → Int → Rng} {vs : List Int} (hR : Rules n rule vs) : ∀ (us : List Int) (l : List Rng), (∀ u ∈ us, u ∈ vs) → okL64 n l → PostR rule vs l → okL64 n (us.foldl (narrow rule) l) ∧ PostR rule vs (us.foldl (narrow rule) l)
 | [], l, _, hl, hp => ⟨hl, hp⟩
 | u :: us, l, hs, hl, hp => narrow_all hR us _ (fun x hx => hs x (.tail _ hx)) (narrow_ok hR hl (hs u (.head _))) (narrow_post hR hl hp (hs u (.head _)))
def growR (rule : List Rng → Int → Rng) (wid : Int → Option Rng) (l : List Rng) (v : Int) : Rng :=
 match wid v with
 | some t => widQ t (lv l v) (rule l v)
 | none => rJoin (lv l v) (rule l v)
def growS (rule : List Rng → Int → Rng) (wid : Int → Option Rng) (l : List Rng) (v : Int) : List Rng := l.set v.toNat (growR rule wid l v)
def growA (rule : List Rng → Int → Rng) (wid : Int → Option Rng) (vs : List Int) (l : List Rng) : List Rng := vs.foldl (growS rule wid) l
theorem growR_l {rule : List Rng → Int → Rng} {wid : Int → Option Rng} {l : List Rng} {v : Int} : rSub (lv l v) (growR rule wid l v) ∧ rSub (rule l v) (growR rule wid l v) := by
 unfold growR
 cases wid v with
 | none => exact ⟨rJoin_l, rJoin_r⟩
 | some t => exact ⟨rJoin_l.trans widQ_sub, rJoin_r.trans widQ_sub⟩
structure GOkR (n : Nat) (l : List Rng) : Prop where
 ok : okL64 n l
 nrm : ∀ u : Int, 0 ≤ u → nrm (lv l u)
def rtot (l : List Rng) : Nat := (l.map rsz).sum
theorem sum_set : ∀ (l : List Rng) (i : Nat) (r : Rng), i < l.length → rtot (l.set i r) + rsz ((l[i]?).getD noR) = rtot l + rsz r
 | [], i, _, h => by simp at h
 | x :: l, 0, r, _ => by simp [rtot]; omega
 | x :: l, i + 1, r, h => by
  have := sum_set l i r (by simpa using h)
  simp only [rtot, List.set_cons_succ, List.map_cons, List.sum_cons, List.getElem?_cons_succ] at this ⊢
  omega
theorem rtot_le {n : Nat} {l : List Rng} (h : okL64 n l) : rtot l ≤ n * 18446744073709551616 := by
 obtain ⟨hl, ho⟩ := h
 have key : ∀ (l : List Rng), (∀ r ∈ l, ok64 r) → rtot l ≤ l.length * 18446744073709551616 := fun l => by
  induction l with
  | nil => intro _; simp [rtot]
  | cons x l ih =>
   intro h
   have h1 := ih fun r hr => h r (.tail _ hr)
   have h2 := rsz_le (h x (.head _))
   simp only [rtot, List.map_cons, List.sum_cons, List.length_cons] at h1 ⊢
   omega
 rw [← hl]
 refine key l fun r hr => ?_
 obtain ⟨k, hk, rfl⟩ := List.mem_iff_getElem.1 hr
 have := ho k (by omega)
 unfold lv at this
 rw [show ((k : Int).toNat) = k from rfl, qh hk] at this
 exact this
theorem growS_ok {n : Nat} {rule : List Rng → Int → Rng} {wid : Int → Option Rng} {vs : List Int} (hR : Rules n rule vs) (hw : ∀ v t, wid v = some t → ok64 t) {l : List Rng} (hl : GOkR n l) {v : Int} (hv : v ∈ vs) :
  GOkR n (growS rule wid l v) ∧ (growR rule wid l v = lv l v ∨ rtot l < rtot (growS rule wid l v)) ∧ rtot l ≤ rtot (growS rule wid l v) := by
 have hr := hR.rng v hv
 have hlen : v.toNat < l.length := by rw [hl.ok.1]; omega
 have h1 := hl.ok.2 v hr.1
 have h2 := hR.ok l v hl.ok.1 hl.ok.2 hv
 have h3 := hl.nrm v hr.1
 have hgo : ok64 (growR rule wid l v) := by
  unfold growR
  cases hw' : wid v with
  | none => exact rJoin_ok h1 h2
  | some t => exact widQ_ok (hw v t hw') h1 h2
 have hgn : nrm (growR rule wid l v) := by
  unfold growR
  cases wid v with
  | none => exact rJoin_nrm h3
  | some t => exact widQ_nrm h3
 have hsum := sum_set l v.toNat (growR rule wid l v) hlen
 refine ⟨⟨⟨by unfold growS; rw [List.length_set]; exact hl.ok.1, fun u hu => ?_⟩, fun u hu => ?_⟩, ?_⟩
 ·unfold growS; rw [lv_set hr.1 hlen _ hu]; split
  ·exact hgo
  ·exact hl.ok.2 u hu
 ·unfold growS; rw [lv_set hr.1 hlen _ hu]; split
  ·exact hgn
  ·exact hl.nrm u hu
 ·by_cases e : growR rule wid l v = lv l v
  ·refine ⟨.inl e, ?_⟩
   unfold growS
   rw [e] at hsum ⊢
   have : rsz (l[v.toNat]?.getD noR) = rsz (lv l v) := rfl
   omega
  ·have := rsz_lt h3 hgn growR_l.1 e
   have h5 : rsz (l[v.toNat]?.getD noR) = rsz (lv l v) := rfl
   have : rtot l < rtot (growS rule wid l v) := by unfold growS; omega
   exact ⟨.inr this, by omega⟩
theorem growS_same {rule : List Rng → Int → Rng} {wid : Int → Option Rng} {l : List Rng} {v : Int} (h0 : 0 ≤ v) (h : v.toNat < l.length) (e : growR rule wid l v = lv l v) : growS rule wid l v = l := by
 unfold growS
 rw [e]
 refine List.ext_getElem? fun k=>?_
 by_cases ek : k = v.toNat
 ·subst ek; rw [List.getElem?_set_self h]; unfold lv; rw [qh h]; rfl
 ·rw [List.getElem?_set_ne (fun e => ek e.symm)]
theorem grow_post {rule : List Rng → Int → Rng} {wid : Int → Option Rng} {vs : List Int} {l : List Rng} (h : ∀ v ∈ vs, growR rule wid l v = lv l v) : PostR rule vs l := fun v hv => by
 have := (growR_l (rule := rule) (wid := wid) (l := l) (v := v)).2
 rwa [h v hv] at this
end Go.Proofs.YtjnpcfpecilejaaGreatDoor
namespace Go.Proofs.YtjnpcfpecilejaaGreatDoor
open Go.Proofs.Tryz
theorem growA_ok {n : Nat} {rule : List Rng → Int → Rng} {wid : Int → Option Rng} {vs : List Int} (hR : Rules n rule vs) (hw : ∀ v t, wid v = some t → ok64 t) : ∀ (us : List Int) (l : List Rng), (∀ u ∈ us, u ∈ vs) → GOkR n l →
  GOkR n (growA rule wid us l) ∧ rtot l ≤ rtot (growA rule wid us l) ∧ (growA rule wid us l = l ∨ rtot l < rtot (growA rule wid us l))
 | [], l, _, hl => ⟨hl, Nat.le_refl _, .inl rfl⟩
 | u :: us, l, hs, hl => by
  have hu := hs u (.head _)
  obtain ⟨h1, h2, h3⟩ := growS_ok hR hw hl hu
  obtain ⟨g1, g2, g3⟩ := growA_ok hR hw us _ (fun x hx => hs x (.tail _ hx)) h1
  have e : growA rule wid (u :: us) l = growA rule wid us (growS rule wid l u) := rfl
  rw [e]
  refine ⟨g1, by omega, ?_⟩
  rcases h2 with h2 | h2
  ·have hr := hR.rng u hu
   have e2 := growS_same (rule := rule) (wid := wid) (l := l) (v := u) hr.1 (by rw [hl.ok.1]; omega) h2
   rw [e2] at g3 ⊢
   exact g3
  ·exact .inr (by omega)
theorem growA_still {n : Nat} {rule : List Rng → Int → Rng} {wid : Int → Option Rng} {vs : List Int} (hR : Rules n rule vs) (hw : ∀ v t, wid v = some t → ok64 t) : ∀ (us : List Int) (l : List Rng), (∀ u ∈ us, u ∈ vs) → GOkR n l → growA rule wid us l = l → ∀ u ∈ us, growR rule wid l u = lv l u
 | [], _, _, _, _ => fun _ h => by cases h
 | u :: us, l, hs, hl, he => by
  have hu := hs u (.head _)
  obtain ⟨h1, h2, h3⟩ := growS_ok hR hw hl hu
  have g := growA_ok hR hw us _ (fun x hx => hs x (.tail _ hx)) h1
  have e : growA rule wid (u :: us) l = growA rule wid us (growS rule wid l u) := rfl
  rw [e] at he
  rw [he] at g
  rcases h2 with h2 | h2
  ·have hr := hR.rng u hu
   have e2 := growS_same (rule := rule) (wid := wid) (l := l) (v := u) hr.1 (by rw [hl.ok.1]; omega) h2
   rw [e2] at he
   intro x hx
   rcases List.mem_cons.1 hx with rfl | hx
   ·exact h2
   ·exact growA_still hR hw us l (fun x hx => hs x (.tail _ hx)) hl he x hx
  ·exact absurd g.2.1 (by omega)
section
variable {n : Nat} {rule : List Rng → Int → Rng} {widn : Nat → Int → Option Rng} {vs : List Int} (hR : Rules n rule vs) (hw : ∀ i v t, widn i v = some t → ok64 t)
include hR hw
end
set_option linter.defProp false
def qc := @Gv.loadR
def qd := @Gv.idxR
end Go.Proofs.YtjnpcfpecilejaaGreatDoor
