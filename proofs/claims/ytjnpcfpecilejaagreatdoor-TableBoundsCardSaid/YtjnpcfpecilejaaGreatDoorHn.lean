/- The document's table of blocks, its checks of sums; its rules. Of programs that are little. -/
import Derived.Test.YtjnpcfpecilejaaGreatDoorHm
import Derived.Test.YtjnpcfpecilejaaGreatDoorHe
import Derived.Test.YtjnpcfpecilejaaGreatDoorHf
import Derived.Test.YtjnpcfpecilejaaGreatDoorHd
set_option linter.unusedVariables false
set_option linter.unusedSimpArgs false
set_option linter.unusedSectionVars false
namespace Go.Proofs.YtjnpcfpecilejaaGreatDoor
open Go.Proofs.Tryz
open Go.Proofs Go.Lib Go.Shelf Go.RowKit
variable {E : World}
set_option maxRecDepth 20000
theorem want_1 {f : PFunc} {x : PInst} {m : Nat} (e : x.op = 1) (h : m < (wantL f x).length) : (wantL f x)[m] = kindV f x.dst := by
 have h2 : (wantL f x)[m]? = some (kindV f x.dst) := by
  unfold wantL at h ⊢
  rw [if_pos e] at h ⊢
  simp at h
  subst h; rfl
 rw [qj h] at h2
 exact Option.some.inj h2
theorem want_2 {f : PFunc} {x : PInst} {m : Nat} (e : ¬ x.op = 1) (h : m < (wantL f x).length) (h' : m < (takesL x.op).length) : (wantL f x)[m] = (takesL x.op)[m] := by
 have h2 : (wantL f x)[m]? = some ((takesL x.op)[m]) := by
  unfold wantL
  rw [if_neg e, qj h']
 rw [qj h] at h2
 exact Option.some.inj h2
theorem term_kind {f : PFunc} {t : PTerm} (h : termOK f t = true) : t.kind = 0 ∨ t.kind = 1 ∨ t.kind = 2 := by
 unfold termOK at h
 by_cases h0 : t.kind = 0
 ·exact .inl h0
 ·rw [if_neg h0] at h
  by_cases h1 : t.kind = 1
  ·exact .inr (.inl h1)
  ·rw [if_neg h1] at h
   by_cases h2 : t.kind = 2
   ·exact .inr (.inr h2)
   ·rw [if_neg h2] at h; cases h
set_option maxHeartbeats 8000000 in
theorem refTyped_spec (f : PFunc) (hf : small f) (hS : ShapedP f) : AFun prog E 120 [.agg (encF f)] (.bool (f.blocks.all (blkT f))) := by
 have hn := hf.2.2.1
 refine zo func120 rfl (by decide) rfl<|zSr<|y7 (cs := _) rfl rfl rfl<|z2 (zAb rfl)<|z6<|za<|zSr<|z2 (zFF underlying26 rfl sizeOf24 rfl rfl)<|z2 (zLf isAgg24 rfl)<|z2 (zz underlying24 rfl)<|z2 (zMi rfl)<|z6<|zh<|y6 (γ := Nat) [1, 16, 17] (fun i => [(18, .int .i64 i)]) (fun i => []) (fun i => i ≤ f.blocks.length ∧ (f.blocks.take i).all (blkT f) = true) (fun i => f.blocks.length - i) 0 zR1 zLe (⟨qm _, rfl⟩) ?_
 rintro i ⟨hi, hall⟩
 refine zSr<|z2 (y8 rfl rfl)<|z6<|za<|zp rfl (fun ci=>?_) (fun ci=>?_)
 ·have hi2 : i < f.blocks.length := by simp at ci; omega
  obtain ⟨b, hbi⟩ : ∃ b, f.blocks[i] = b := ⟨_, rfl⟩
  have hget : f.blocks[i]? = some b := by rw [qj hi2, hbi]
  have hmem : b ∈ f.blocks := hbi ▸ qn hi2
  obtain ⟨hb0, hb1, hb2, hb3, hb4⟩ := hf.2.2.2.2 b hmem
  obtain ⟨hPh, hIn, hTm⟩ := hS.2.2.2.2.2 b hmem
  have hbad : blkT f b = false → f.blocks.all (blkT f) = false := fun h => Bool.eq_false_iff.2 (all_bad hi2 (by rw [hbi]; exact h))
  refine zc<|za<|zh<|zSr<|z2 (zIM i underlying24 sizeOf66 rfl rfl rfl hget)<|z2 (zk isAgg66 sizeOf66 rfl rfl)<|zq (cs := [.str ⟨#[]⟩, .raw (.slice none 0 0), .raw (.slice none 0 0), .int .i64 0, .int .i64 0, .int .i64 0, .int .i64 0]) zeroValue66 rfl rfl<|fun i4 => zm sizeOf66 rfl rfl rfl rfl rfl rfl .head rfl<|zd (y9 (t := 4) rfl .head)<|z6<|za<|zSr<|z2 (zFF underlying66 rfl sizeOf59 rfl rfl)<|z2 (zLf isAgg59 rfl)<|z2 (zz underlying59 rfl)<|z2 (zMi rfl)<|z6<|zh<|y6 (γ := Nat) [1, 4, 16, 17, 18, 23, 24] (fun j => [(25, .int .i64 j)]) (fun j => []) (fun j => j ≤ b.phis.length ∧ (b.phis.take j).all (phiT f) = true) (fun j => b.phis.length - j) 0 zR1 zLe (⟨qm _, rfl⟩) ?_
  rintro j ⟨hj, hjall⟩
  refine zSr<|z2 (y8 rfl rfl)<|z6<|za<|zp rfl (fun cj=>?_) (fun cj=>?_)
  ·have hj2 : j < b.phis.length := by simp at cj; omega
   obtain ⟨p, hp⟩ : ∃ p, b.phis[j] = p := ⟨_, rfl⟩
   have hpm : p ∈ b.phis := hp ▸ qn hj2
   obtain ⟨hpd, hpl, hpn, hpa, hpf⟩ := hPh p hpm
   have hpb := (hb3 p hpm).1
   refine zc<|za<|zh<|zSr<|z2 (zIM j underlying59 sizeOf95 rfl rfl rfl (by rw [qj hj2, hp]))<|z2 (zk isAgg95 sizeOf95 rfl rfl)<|zq (cs := [.int .i64 0, .raw (.slice none 0 0), .raw (.slice none 0 0)]) zeroValue95 rfl rfl<|fun i6 => zm sizeOf95 rfl rfl rfl rfl rfl rfl .head rfl<|zd (y9 (t := 6) rfl .head)<|z6<|zSr<|z2 (zFF underlying95 rfl sizeOf23 rfl rfl)<|z2 (zLf isAgg23 rfl)<|z2 (zz underlying23 rfl)<|z2 (zMi rfl)<|z6<|zh<|y6 (γ := Nat) [1, 4, 6, 16, 17, 18, 23, 24, 25, 30, 31] (fun k => [(32, .int .i64 k)]) (fun k => []) (fun k => k ≤ p.args.length ∧ (p.args.take k).all (fun v => decide (kindV f v = kindV f p.dst)) = true) (fun k => p.args.length - k) 0 zR1 zLe (⟨qm _, rfl⟩) ?_
   rintro k ⟨hk, hkall⟩
   refine zSr<|z2 (y8 rfl rfl)<|z6<|za<|zp rfl (fun ck=>?_) (fun ck=>?_)
   ·have hk2 : k < p.args.length := by simp at ck; omega
    obtain ⟨v, hv⟩ : ∃ v, p.args[k] = v := ⟨_, rfl⟩
    have hvv := List.all_eq_true.1 hpa v (hv ▸ qn hk2)
    refine zc<|za<|zh<|zSr<|z2 (zIM k underlying23 sizeOf3 rfl rfl rfl (by rw [qj hk2, hv]))<|z2 (zLi isAgg3 rfl)<|z2 (zAi rfl)<|z6<|za<|y1 (fun j => false) (by kernel_rfl) rfl (zn (.rest _))<|zTk 0 rfl (zk isAgg26 sizeOf26 rfl rfl)<|zTk 1 rfl (zMi rfl)<|zTk 3 rfl (zk isAgg26 sizeOf26 rfl rfl)<|zTk 4 rfl (zFF underlying95 rfl sizeOf3 rfl rfl)<|zTk 5 rfl (zLi isAgg3 rfl)<|zOn 2 rfl<|ze (rof_spec f v hvv) rfl<|z6<|zOn 6 rfl<|ze (rof_spec f p.dst hpd) rfl<|z6<|zTk 7 rfl (yi rfl rfl)<|zDn<|zr rfl (fun cq=>?_) (fun cq=>?_)
    ·have hq : ¬ kindV f v = kindV f p.dst := by simpa using cq
     have hph : phiT f p = false := by
      unfold phiT
      rw [show (p.args.any fun v => !decide (kindV f v = kindV f p.dst)) = true from List.any_eq_true.2 ⟨v, hv ▸ qn hk2, by simp [hq]⟩]; rfl
     refine zSr<|z2 (zAb rfl)<|z6<|zf<|zj (x := .bool _) rfl ?_
     rw [hbad (by unfold blkT; rw [show b.phis.all (phiT f) = false from Bool.eq_false_iff.2 (all_bad hj2 (by rw [hp]; exact hph))]; rfl)]
    ·have hq : kindV f v = kindV f p.dst := by simpa using cq
     refine zc<|zRg<|z2 (zAd rfl rfl)<|z2 (zMi rfl)<|z6 ?_
     exact ⟨k + 1, zR11, zR1, zLe, ⟨hk2, all_take hk2 hkall (by rw [hv]; simp [hq])⟩, by omega⟩
   ·have hkn : k = p.args.length := by simp at ck; omega
    rw [hkn, qo] at hkall
    have hph : phiT f p = true := by
     unfold phiT
     rw [show (p.args.any fun v => !decide (kindV f v = kindV f p.dst)) = false from List.any_eq_false.2 fun v hv => by have := List.all_eq_true.1 hkall v hv; simpa using this]; rfl
    refine y4<|zRg<|z2 (zAd rfl rfl)<|z2 (zMi rfl)<|z6 ?_
    exact ⟨j + 1, zR7, zR1, zLe, ⟨hj2, all_take hj2 hjall (by rw [hp]; exact hph)⟩, by omega⟩
  ·have hjn : j = b.phis.length := by simp at cj; omega
   subst hjn
   rw [qo] at hjall
   refine y4<|za<|zSr<|z2 (zFF underlying66 rfl sizeOf60 rfl rfl)<|z2 (zLf isAgg60 rfl)<|z2 (zz underlying60 rfl)<|z2 (zMi rfl)<|z6<|zh<|y6 (γ := Nat) [1, 4, 16, 17, 18, 47, 48] (fun k => [(49, .int .i64 k)]) (fun k => []) (fun k => k ≤ b.insts.length ∧ (b.insts.take k).all (instT f) = true) (fun k => b.insts.length - k) 0 zR1 zLe (⟨qm _, rfl⟩) ?_
   rintro k ⟨hk, hkall⟩
   refine zSr<|z2 (y8 rfl rfl)<|z6<|za<|zp rfl (fun ck=>?_) (fun ck=>?_)
   ·have hk2 : k < b.insts.length := by simp at ck; omega
    obtain ⟨z, hz⟩ : ∃ z, b.insts[k] = z := ⟨_, rfl⟩
    have hzm : z ∈ b.insts := hz ▸ qn hk2
    have hI := instP_F (hIn z hzm)
    have hzl := hb4 z hzm
    have hwl := wantL_len hI
    have hdst : makesB z.op = true → hasV f z.dst = true := fun h => by
     rcases hI.dst with ⟨d1, _⟩ | ⟨_, _, d3⟩
     ·rw [h] at d1; cases d1
     ·exact d3
    have hcopy : z.op = 1 → makesB z.op = true := fun h => by rw [h]; rfl
    have hib : instT f z = false → f.blocks.all (blkT f) = false := fun h => hbad (by unfold blkT; rw [hjall, show b.insts.all (instT f) = false from Bool.eq_false_iff.2 (all_bad hk2 (by rw [hz]; exact h))]; rfl)
    refine zc<|za<|zh<|zSr<|z2 (zIM k underlying60 sizeOf33 rfl rfl rfl (by rw [qj hk2, hz]))<|z2 (zk isAgg33 sizeOf33 rfl rfl)<|zq (cs := [.int .i64 0, .int .i64 0, .raw (.slice none 0 0), .int .i64 0]) zeroValue33 rfl rfl<|fun i10 => zm sizeOf33 rfl rfl rfl rfl rfl rfl .head rfl<|zd (y9 (t := 10) rfl .head)<|z6<|za<|yc (γ := Nat) [1, 4, 10, 16, 17, 18, 47, 48, 49] (fun g => [(11, .po g 0)]) (fun g => [(g, .cells 222 (encK (kRow z.op)))]) (fun g => True) ?_ (fun _ _ h => h) ?_
    ·refine y1 (fun j => false) (by kernel_rfl) rfl (zn (.rest _))<|zTk 1 rfl (zFF underlying33 rfl sizeOf31 rfl rfl)<|zTk 2 rfl (zLi isAgg31 rfl)<|yk (i := 0) (j := 5) rfl rfl (by kernel_rfl) ?_ ?_
     ·refine ze (rows_spec) rfl<|z6<|zTk 3 rfl (zIM z.op.toNat underlying223 sizeOf222 rfl rfl (by have := hI.op; omega) (kRow_get hI.op))<|zTk 4 rfl (zk isAgg222 sizeOf222 rfl rfl)<|zOn 5 rfl<|zq (cs := [.str ⟨#[]⟩, .str ⟨#[]⟩, .str ⟨#[]⟩]) zeroValue222 rfl rfl<|fun i11 => z6<|zOn 6 rfl<|zm sizeOf222 rfl rfl rfl rfl rfl rfl .head rfl<|z6<|zDn ?_
      exact ⟨i11, zR9, zR1, zLe, trivial⟩
     ·refine zq (cs := [.str ⟨#[]⟩, .str ⟨#[]⟩, .str ⟨#[]⟩]) zeroValue222 rfl rfl<|fun i11 => z6<|zOn 0 rfl<|ze (rows_spec) rfl<|z6<|zTk 3 rfl (zIM z.op.toNat underlying223 sizeOf222 rfl rfl (by have := hI.op; omega) (kRow_get hI.op))<|zTk 4 rfl (zk isAgg222 sizeOf222 rfl rfl)<|zOn 6 rfl<|zm sizeOf222 rfl rfl rfl rfl rfl rfl .head rfl<|z6<|zDn ?_
      exact ⟨i11, zR9, zR1, zLe, trivial⟩
    ·rintro i11 _
     refine za<|zSr<|z2 (zFF underlying33 rfl sizeOf23 rfl rfl)<|z2 (zLf isAgg23 rfl)<|z2 (zz underlying23 rfl)<|z2 (zMi rfl)<|z6<|zh<|y6 (γ := Nat) [1, 4, 10, 11, 16, 17, 18, 47, 48, 49, 60] (fun m => [(61, .int .i64 m)]) (fun m => [(i11, .cells 222 (encK (kRow z.op)))]) (fun m => m ≤ z.args.length ∧ (z.args.take m).map (kindV f) = (wantL f z).take m) (fun m => z.args.length - m) 0 zR1 zLe (⟨qm _, by simp⟩) ?_
     rintro m ⟨hm, hmall⟩
     refine zSr<|z2 (y8 rfl rfl)<|z6<|za<|zp rfl (fun cm=>?_) (fun cm=>?_)
     ·have hm2 : m < z.args.length := by simp at cm; omega
      have hmw : m < (wantL f z).length := by omega
      have hmt : m < (takesL z.op).length := by have := hI.len; omega
      obtain ⟨v, hv⟩ : ∃ v, z.args[m] = v := ⟨_, rfl⟩
      have hvv := hI.args v (hv ▸ qn hm2)
      obtain ⟨c, hc, hct⟩ := takes_byte hmt
      have hbadm : ¬ kindV f v = (wantL f z)[m] → f.blocks.all (blkT f) = false := fun h => hib (by rw [instT_want hI, qv (map_ne hm2 hmw (by rw [hv]; exact h))]; rfl)
      refine zc<|za<|zh<|zSr<|z2 (zMi rfl)<|z2 (zAi rfl)<|z6<|zSr<|z2 (zu underlying222 rfl sizeOf9 (by decide) rfl rfl)<|z2 (zy (c := .str _) isAgg9 rfl ⟨_, .head⟩ rfl)<|z2 (zMi rfl)<|z2 (Gv.indexT (j := m) underlying9 rfl rfl rfl hc)<|ze (rtype_spec (c.toNat : Int)) rfl<|z2 (zAi rfl)<|z6<|za<|zSr<|z2 (zu underlying222 rfl sizeOf9 (by decide) rfl rfl)<|z2 (zy (c := .str _) isAgg9 rfl ⟨_, .head⟩ rfl)<|z2 (Gv.eqlT rfl rfl)<|z6<|zr rfl (fun cw=>?_) (fun cw=>?_)
      ·have ew : z.op = 1 := (copy_op hI.op).1 (by simpa using cw)
       refine zRg<|z2 (zk isAgg26 sizeOf26 rfl rfl)<|z2 (zFF underlying33 rfl sizeOf3 rfl rfl)<|z2 (zLi isAgg3 rfl)<|ze (rof_spec f z.dst (hdst (hcopy ew))) rfl<|z2 (zAi rfl)<|z6<|za<|y1 (fun j => false) (by kernel_rfl) rfl (zn (.rest _))<|zTk 0 rfl (zk isAgg26 sizeOf26 rfl rfl)<|zTk 1 rfl (zFF underlying33 rfl sizeOf23 rfl rfl)<|zTk 2 rfl (zLf isAgg23 rfl)<|zTk 3 rfl (zMi rfl)<|zTk 4 rfl (zIM m underlying23 sizeOf3 rfl rfl rfl (by rw [qj hm2, hv]))<|zTk 5 rfl (zLi isAgg3 rfl)<|zTk 7 rfl (zMi rfl)<|zOn 6 rfl<|ze (rof_spec f v hvv) rfl<|z6<|zTk 8 rfl (yi rfl rfl)<|zDn<|zr rfl (fun cq=>?_) (fun cq=>?_)
       ·have hq : ¬ kindV f v = kindV f z.dst := by simpa using cq
        refine zSr<|z2 (zAb rfl)<|z6<|zf<|zj (x := .bool _) rfl ?_
        rw [hbadm (by rw [want_1 ew hmw]; exact hq)]
       ·have hq : kindV f v = kindV f z.dst := by simpa using cq
        refine zc<|zRg<|z2 (zAd rfl rfl)<|z2 (zMi rfl)<|z6 ?_
        exact ⟨m + 1, zR11, zR1, zLe, ⟨hm2, map_take_succ hm2 hmw hmall (by rw [hv, want_1 ew hmw]; exact hq)⟩, by omega⟩
      ·have ew : ¬ z.op = 1 := fun e => by have := (copy_op hI.op).2 e; simp [this] at cw
       refine zc<|za<|y1 (fun j => false) (by kernel_rfl) rfl (zn (.rest _))<|zTk 0 rfl (zk isAgg26 sizeOf26 rfl rfl)<|zTk 1 rfl (zFF underlying33 rfl sizeOf23 rfl rfl)<|zTk 2 rfl (zLf isAgg23 rfl)<|zTk 3 rfl (zMi rfl)<|zTk 4 rfl (zIM m underlying23 sizeOf3 rfl rfl rfl (by rw [qj hm2, hv]))<|zTk 5 rfl (zLi isAgg3 rfl)<|zTk 7 rfl (zMi rfl)<|zOn 6 rfl<|ze (rof_spec f v hvv) rfl<|z6<|zTk 8 rfl (yi rfl rfl)<|zDn<|zr rfl (fun cq=>?_) (fun cq=>?_)
       ·have hq : ¬ kindV f v = typeOf (c.toNat : Int) := by simpa using cq
        refine zSr<|z2 (zAb rfl)<|z6<|zf<|zj (x := .bool _) rfl ?_
        rw [hbadm (by rw [want_2 ew hmw hmt, hct]; exact hq)]
       ·have hq : kindV f v = typeOf (c.toNat : Int) := by simpa using cq
        refine zc<|zRg<|z2 (zAd rfl rfl)<|z2 (zMi rfl)<|z6 ?_
        exact ⟨m + 1, zR11, zR1, zLe, ⟨hm2, map_take_succ hm2 hmw hmall (by rw [hv, want_2 ew hmw hmt, hct]; exact hq)⟩, by omega⟩
     ·have hmn : m = z.args.length := by simp at cm; omega
      have hall2 : z.args.map (kindV f) = wantL f z := by rw [hmn, qo, hwl, qo] at hmall; exact hmall
      have hiw := instT_want hI
      rw [qu hall2, Bool.true_and] at hiw
      refine y4<|za<|y1 (fun j => false) (by kernel_rfl) rfl (zn (.r (.rest _)))<|zTk 0 rfl (zu underlying222 rfl sizeOf9 (by decide) rfl rfl)<|zTk 1 rfl (zy (c := .str _) isAgg9 rfl ⟨_, .head⟩ rfl)<|zTk 2 rfl (Gv.neqT rfl rfl)<|zTk 3 rfl (zMb rfl)<|AAny.case (s := 89) rfl (fun c1=>?_) (fun c1=>?_)
      ·have d1 : ¬ (kRow z.op).2.2 = ⟨#[]⟩ := by simpa using c1
       have dm : makesB z.op = true := by rw [makesB_eq, qv d1]; rfl
       obtain ⟨c, hc, hct⟩ := makes_byte d1
       refine zTt 4 rfl rfl rfl c1 (zu underlying222 rfl sizeOf9 (by decide) rfl rfl)<|zTt 5 rfl rfl rfl c1 (zy (c := .str _) isAgg9 rfl ⟨_, .head⟩ rfl)<|zTt 6 rfl rfl rfl c1 (Gv.neqT rfl rfl)<|zTk 7 rfl (zPt rfl c1 rfl)<|zTk 8 rfl (zMb rfl)<|AAny.case (s := 94) rfl (fun c2=>?_) (fun c2=>?_)
       ·have ew : ¬ z.op = 1 := fun e => by have := (copy_op hI.op).2 e; simp [this] at c2
        refine zTt 9 rfl rfl rfl c2 (zk isAgg26 sizeOf26 rfl rfl)<|zTt 10 rfl rfl rfl c2 (zFF underlying33 rfl sizeOf3 rfl rfl)<|zTt 11 rfl rfl rfl c2 (zLi isAgg3 rfl)<|zTt 13 rfl rfl rfl c2 (zu underlying222 rfl sizeOf9 (by decide) rfl rfl)<|zTt 14 rfl rfl rfl c2 (zy (c := .str _) isAgg9 rfl ⟨_, .head⟩ rfl)<|zTt 15 rfl rfl rfl c2 (Gv.indexT (j := 0) underlying9 rfl rfl rfl hc)<|zOn 12 rfl<|z8 rfl rfl c2<|ze (rof_spec f z.dst (hdst dm)) rfl<|z6<|zOn 16 rfl<|z8 rfl rfl c2<|ze (rtype_spec (c.toNat : Int)) rfl<|z6<|zTt 17 rfl rfl rfl c2 (yi rfl rfl)<|zTk 18 rfl (zPt rfl c2 rfl)<|zDn<|zr rfl (fun cq=>?_) (fun cq=>?_)
        ·have hq : ¬ kindV f z.dst = typeOf (c.toNat : Int) := by simpa using cq
         refine zSr<|z2 (zAb rfl)<|z6<|zf<|zj (x := .bool _) rfl ?_
         rw [hib (by rw [hiw, dm, qv ew, hct, qv hq]; rfl)]
        ·have hq : kindV f z.dst = typeOf (c.toNat : Int) := by simpa using cq
         refine zc<|zRg<|z2 (zAd rfl rfl)<|z2 (zMi rfl)<|z6 ?_
         exact ⟨k + 1, zR7, zR1, ⟨_, (.drop (.refl _)), rfl⟩, ⟨hk2, all_take hk2 hkall (by rw [hz, hiw, hct, qu hq]; simp)⟩, by omega⟩
       ·have ew : z.op = 1 := (copy_op hI.op).1 (by simpa using c2)
        refine zTf 9 rfl rfl rfl c2<|zTf 10 rfl rfl rfl c2<|zTf 11 rfl rfl rfl c2<|zTf 12 rfl rfl rfl c2<|zTf 13 rfl rfl rfl c2<|zTf 14 rfl rfl rfl c2<|zTf 15 rfl rfl rfl c2<|zTf 16 rfl rfl rfl c2<|zTf 17 rfl rfl rfl c2<|zTk 18 rfl (zPf rfl c2 rfl)<|zDn<|yh rfl rfl<|zc<|zRg<|z2 (zAd rfl rfl)<|z2 (zMi rfl)<|z6 ?_
        exact ⟨k + 1, zR7, zR1, ⟨_, (.drop (.refl _)), rfl⟩, ⟨hk2, all_take hk2 hkall (by rw [hz, hiw, qu ew]; simp)⟩, by omega⟩
      ·have d1 : (kRow z.op).2.2 = ⟨#[]⟩ := by simpa using c1
       have dm : makesB z.op = false := by rw [makesB_eq, qu d1]; rfl
       refine zTf 4 rfl rfl rfl c1<|zTf 5 rfl rfl rfl c1<|zTf 6 rfl rfl rfl c1<|zTk 7 rfl (zPf rfl c1 rfl)<|zTk 8 rfl (zMb rfl)<|zTf 9 rfl rfl rfl rfl<|zTf 10 rfl rfl rfl rfl<|zTf 11 rfl rfl rfl rfl<|zTf 12 rfl rfl rfl rfl<|zTf 13 rfl rfl rfl rfl<|zTf 14 rfl rfl rfl rfl<|zTf 15 rfl rfl rfl rfl<|zTf 16 rfl rfl rfl rfl<|zTf 17 rfl rfl rfl rfl<|zTk 18 rfl (zPf rfl rfl rfl)<|zDn<|yh rfl rfl<|zc<|zRg<|z2 (zAd rfl rfl)<|z2 (zMi rfl)<|z6 ?_
       exact ⟨k + 1, zR7, zR1, ⟨_, (.drop (.refl _)), rfl⟩, ⟨hk2, all_take hk2 hkall (by rw [hz, hiw, dm]; rfl)⟩, by omega⟩
   ·have hkn : k = b.insts.length := by simp at ck; omega
    rw [hkn, qo] at hkall
    refine y4<|zSr<|z2 (zFF underlying66 rfl sizeOf64 rfl rfl)<|z2 (zk isAgg64 sizeOf64 rfl rfl)<|zq (cs := [.int .i64 0, .int .i64 0, .int .i64 0, .int .i64 0]) zeroValue64 rfl rfl<|fun i14 => zm sizeOf64 rfl rfl rfl rfl rfl rfl .head rfl<|zd (y9 (t := 14) rfl .head)<|z6<|za<|yc (γ := Bool) [1, 16, 17, 18] (fun u => [(152, .bool u)]) (fun u => []) (fun u => u = !termT f b.term) ?_ (fun _ _ h => h) ?_
    ·have hk3 := term_kind hTm
     refine zRg<|z2 (zFF underlying64 rfl sizeOf61 rfl rfl)<|z2 (zLi isAgg61 rfl)<|z2 (y3 rfl rfl)<|z2 (zMb rfl)<|zl (s := 111) rfl (fun c1=>?_) (fun c1=>?_)
     ·refine z8 rfl rfl c1<|z2 (zk isAgg26 sizeOf26 rfl rfl)<|z8 rfl rfl c1<|z2 (zFF underlying64 rfl sizeOf3 rfl rfl)<|z8 rfl rfl c1<|z2 (zLi isAgg3 rfl)<|z8 rfl rfl c1<|ze (rof_spec f b.term.var (term_var hTm (by simp_all))) rfl<|z8 rfl rfl c1<|z2 (yi rfl rfl)<|z2 (zPt rfl c1 rfl)<|z2 (zMb rfl)<|zl (s := 118) rfl (fun c2=>?_) (fun c2=>?_)
      ·refine z7 rfl rfl c2<|z7 rfl rfl c2<|z7 rfl rfl c2<|z7 rfl rfl c2<|zb rfl rfl<|zb rfl rfl<|zb rfl rfl<|zb rfl rfl<|zb rfl rfl<|zb rfl rfl<|zb rfl rfl<|zb rfl rfl<|zb rfl rfl<|zb rfl rfl<|zb rfl rfl<|zb rfl rfl<|zb rfl rfl<|zb rfl rfl<|zb rfl rfl<|zb rfl rfl<|zb rfl rfl<|z7 rfl rfl c2<|z2 (zPt rfl c2 rfl)<|z2 (zMb rfl)<|z7 rfl rfl rfl<|z7 rfl rfl rfl<|z7 rfl rfl rfl<|z7 rfl rfl rfl<|zb rfl rfl<|zb rfl rfl<|zb rfl rfl<|zb rfl rfl<|z7 rfl rfl rfl<|z2 (zPt rfl rfl rfl)<|z6 ?_
       exact ⟨_, zR4, zR1, zLe, by simp_all [termT] <;> omega⟩
      ·refine z8 rfl rfl c2<|z2 (zFF underlying64 rfl sizeOf61 rfl rfl)<|z8 rfl rfl c2<|z2 (zLi isAgg61 rfl)<|z8 rfl rfl c2<|z2 (y3 rfl rfl)<|z8 rfl rfl c2<|z2 (zMb rfl)<|zl (s := 122) rfl (fun c3=>?_) (fun c3=>?_)
       ·refine z8 rfl rfl c3<|z2 (zk isAgg26 sizeOf26 rfl rfl)<|z8 rfl rfl c3<|z2 (zFF underlying64 rfl sizeOf3 rfl rfl)<|z8 rfl rfl c3<|z2 (zLi isAgg3 rfl)<|z8 rfl rfl c3<|ze (rof_spec f b.term.var (term_var hTm (by simp_all))) rfl<|z8 rfl rfl c3<|z2 (yi rfl rfl)<|z8 rfl rfl c3<|z2 (zMb rfl)<|zl (s := 128) rfl (fun c4=>?_) (fun c4=>?_)
        ·refine z7 rfl rfl c4<|z7 rfl rfl c4<|z7 rfl rfl c4<|z7 rfl rfl c4<|z8 rfl rfl c3<|z2 (zPt rfl c4 rfl)<|z8 rfl rfl c3<|z2 (zMb rfl)<|z7 rfl rfl rfl<|z7 rfl rfl rfl<|z7 rfl rfl rfl<|z7 rfl rfl rfl<|z8 rfl rfl c3<|z2 (zPt rfl rfl rfl)<|z8 rfl rfl c2<|z2 (zPt rfl c3 rfl)<|z2 (zPf rfl c2 rfl)<|z2 (zMb rfl)<|z7 rfl rfl rfl<|z7 rfl rfl rfl<|z7 rfl rfl rfl<|z7 rfl rfl rfl<|zb rfl rfl<|zb rfl rfl<|zb rfl rfl<|zb rfl rfl<|z7 rfl rfl rfl<|z2 (zPt rfl rfl rfl)<|z6 ?_
         exact ⟨_, zR4, zR1, zLe, by simp_all [termT] <;> omega⟩
        ·refine z8 rfl rfl c4<|z2 (zFF underlying64 rfl sizeOf62 rfl rfl)<|z8 rfl rfl c4<|z2 (yo (j := 0) underlying62 sizeOf3 rfl rfl rfl (by decide) rfl)<|z8 rfl rfl c4<|z2 (zLi isAgg3 rfl)<|z8 rfl rfl c4<|z2 (y3 rfl rfl)<|z8 rfl rfl c3<|z2 (zPf rfl c4 rfl)<|z8 rfl rfl c3<|z2 (zMb rfl)<|zl (s := 134) rfl (fun c5=>?_) (fun c5=>?_)
         ·refine z7 rfl rfl c5<|z7 rfl rfl c5<|z7 rfl rfl c5<|z7 rfl rfl c5<|z8 rfl rfl c3<|z2 (zPt rfl c5 rfl)<|z8 rfl rfl c2<|z2 (zPt rfl c3 rfl)<|z2 (zPf rfl c2 rfl)<|z2 (zMb rfl)<|z7 rfl rfl rfl<|z7 rfl rfl rfl<|z7 rfl rfl rfl<|z7 rfl rfl rfl<|zb rfl rfl<|zb rfl rfl<|zb rfl rfl<|zb rfl rfl<|z7 rfl rfl rfl<|z2 (zPt rfl rfl rfl)<|z6 ?_
          exact ⟨_, zR4, zR1, zLe, by simp_all [termT] <;> omega⟩
         ·refine z8 rfl rfl c5<|z2 (zFF underlying64 rfl sizeOf62 rfl rfl)<|z8 rfl rfl c5<|z2 (yo (j := 1) underlying62 sizeOf3 rfl rfl rfl (by decide) rfl)<|z8 rfl rfl c5<|z2 (zLi isAgg3 rfl)<|z8 rfl rfl c5<|z2 (y3 rfl rfl)<|z8 rfl rfl c3<|z2 (zPf rfl c5 rfl)<|z8 rfl rfl c2<|z2 (zPt rfl c3 rfl)<|z2 (zPf rfl c2 rfl)<|z2 (zMb rfl)<|zl (s := 142) rfl (fun c6=>?_) (fun c6=>?_)
          ·refine z7 rfl rfl c6<|z7 rfl rfl c6<|z7 rfl rfl c6<|z7 rfl rfl c6<|zb rfl rfl<|zb rfl rfl<|zb rfl rfl<|zb rfl rfl<|z7 rfl rfl c6<|z2 (zPt rfl c6 rfl)<|z6 ?_
           exact ⟨_, zR4, zR1, zLe, by simp_all [termT] <;> omega⟩
          ·refine z8 rfl rfl c6<|z2 (zFF underlying64 rfl sizeOf61 rfl rfl)<|z8 rfl rfl c6<|z2 (zLi isAgg61 rfl)<|z8 rfl rfl c6<|z2 (y3 rfl rfl)<|z8 rfl rfl c6<|z2 (zMb rfl)<|zl (s := 146) rfl (fun c7=>?_) (fun c7=>?_)
           ·refine z8 rfl rfl c7<|z2 (zFF underlying64 rfl sizeOf62 rfl rfl)<|z8 rfl rfl c7<|z2 (yo (j := 0) underlying62 sizeOf3 rfl rfl rfl (by decide) rfl)<|z8 rfl rfl c7<|z2 (zLi isAgg3 rfl)<|z8 rfl rfl c7<|z2 (y3 rfl rfl)<|z8 rfl rfl c6<|z2 (zPt rfl c7 rfl)<|z2 (zPf rfl c6 rfl)<|z6 ?_
            exact ⟨_, zR4, zR1, zLe, by simp_all [termT] <;> omega⟩
           ·refine z7 rfl rfl c7<|z7 rfl rfl c7<|z7 rfl rfl c7<|z7 rfl rfl c7<|z8 rfl rfl c6<|z2 (zPf rfl c7 rfl)<|z2 (zPf rfl c6 rfl)<|z6 ?_
            exact ⟨_, zR4, zR1, zLe, by simp_all [termT] <;> omega⟩
       ·refine z7 rfl rfl c3<|z7 rfl rfl c3<|z7 rfl rfl c3<|z7 rfl rfl c3<|z7 rfl rfl c3<|z7 rfl rfl c3<|zb rfl rfl<|zb rfl rfl<|zb rfl rfl<|zb rfl rfl<|z7 rfl rfl c3<|z7 rfl rfl c3<|zb rfl rfl<|zb rfl rfl<|zb rfl rfl<|zb rfl rfl<|z7 rfl rfl c3<|z8 rfl rfl c2<|z2 (zPf rfl c3 rfl)<|z2 (zPf rfl c2 rfl)<|z2 (zMb rfl)<|z8 rfl rfl rfl<|z2 (zFF underlying64 rfl sizeOf61 rfl rfl)<|z8 rfl rfl rfl<|z2 (zLi isAgg61 rfl)<|z8 rfl rfl rfl<|z2 (y3 rfl rfl)<|z8 rfl rfl rfl<|z2 (zMb rfl)<|zl (s := 146) rfl (fun c8=>?_) (fun c8=>?_)
        ·refine z8 rfl rfl c8<|z2 (zFF underlying64 rfl sizeOf62 rfl rfl)<|z8 rfl rfl c8<|z2 (yo (j := 0) underlying62 sizeOf3 rfl rfl rfl (by decide) rfl)<|z8 rfl rfl c8<|z2 (zLi isAgg3 rfl)<|z8 rfl rfl c8<|z2 (y3 rfl rfl)<|z8 rfl rfl rfl<|z2 (zPt rfl c8 rfl)<|z2 (zPf rfl rfl rfl)<|z6 ?_
         exact ⟨_, zR4, zR1, zLe, by simp_all [termT] <;> omega⟩
        ·refine z7 rfl rfl c8<|z7 rfl rfl c8<|z7 rfl rfl c8<|z7 rfl rfl c8<|z8 rfl rfl rfl<|z2 (zPf rfl c8 rfl)<|z2 (zPf rfl rfl rfl)<|z6 ?_
         exact ⟨_, zR4, zR1, zLe, by simp_all [termT] <;> omega⟩
     ·refine z7 rfl rfl c1<|z7 rfl rfl c1<|z7 rfl rfl c1<|z7 rfl rfl c1<|z7 rfl rfl c1<|z2 (zPf rfl c1 rfl)<|z2 (zMb rfl)<|z8 rfl rfl rfl<|z2 (zFF underlying64 rfl sizeOf61 rfl rfl)<|z8 rfl rfl rfl<|z2 (zLi isAgg61 rfl)<|z8 rfl rfl rfl<|z2 (y3 rfl rfl)<|z8 rfl rfl rfl<|z2 (zMb rfl)<|zl (s := 122) rfl (fun c9=>?_) (fun c9=>?_)
      ·refine z8 rfl rfl c9<|z2 (zk isAgg26 sizeOf26 rfl rfl)<|z8 rfl rfl c9<|z2 (zFF underlying64 rfl sizeOf3 rfl rfl)<|z8 rfl rfl c9<|z2 (zLi isAgg3 rfl)<|z8 rfl rfl c9<|ze (rof_spec f b.term.var (term_var hTm (by simp_all))) rfl<|z8 rfl rfl c9<|z2 (yi rfl rfl)<|z8 rfl rfl c9<|z2 (zMb rfl)<|zl (s := 128) rfl (fun c10=>?_) (fun c10=>?_)
       ·refine z7 rfl rfl c10<|z7 rfl rfl c10<|z7 rfl rfl c10<|z7 rfl rfl c10<|z8 rfl rfl c9<|z2 (zPt rfl c10 rfl)<|z8 rfl rfl c9<|z2 (zMb rfl)<|z7 rfl rfl rfl<|z7 rfl rfl rfl<|z7 rfl rfl rfl<|z7 rfl rfl rfl<|z8 rfl rfl c9<|z2 (zPt rfl rfl rfl)<|z8 rfl rfl rfl<|z2 (zPt rfl c9 rfl)<|z2 (zPf rfl rfl rfl)<|z2 (zMb rfl)<|z7 rfl rfl rfl<|z7 rfl rfl rfl<|z7 rfl rfl rfl<|z7 rfl rfl rfl<|zb rfl rfl<|zb rfl rfl<|zb rfl rfl<|zb rfl rfl<|z7 rfl rfl rfl<|z2 (zPt rfl rfl rfl)<|z6 ?_
        exact ⟨_, zR4, zR1, zLe, by simp_all [termT] <;> omega⟩
       ·refine z8 rfl rfl c10<|z2 (zFF underlying64 rfl sizeOf62 rfl rfl)<|z8 rfl rfl c10<|z2 (yo (j := 0) underlying62 sizeOf3 rfl rfl rfl (by decide) rfl)<|z8 rfl rfl c10<|z2 (zLi isAgg3 rfl)<|z8 rfl rfl c10<|z2 (y3 rfl rfl)<|z8 rfl rfl c9<|z2 (zPf rfl c10 rfl)<|z8 rfl rfl c9<|z2 (zMb rfl)<|zl (s := 134) rfl (fun c11=>?_) (fun c11=>?_)
        ·refine z7 rfl rfl c11<|z7 rfl rfl c11<|z7 rfl rfl c11<|z7 rfl rfl c11<|z8 rfl rfl c9<|z2 (zPt rfl c11 rfl)<|z8 rfl rfl rfl<|z2 (zPt rfl c9 rfl)<|z2 (zPf rfl rfl rfl)<|z2 (zMb rfl)<|z7 rfl rfl rfl<|z7 rfl rfl rfl<|z7 rfl rfl rfl<|z7 rfl rfl rfl<|zb rfl rfl<|zb rfl rfl<|zb rfl rfl<|zb rfl rfl<|z7 rfl rfl rfl<|z2 (zPt rfl rfl rfl)<|z6 ?_
         exact ⟨_, zR4, zR1, zLe, by simp_all [termT] <;> omega⟩
        ·refine z8 rfl rfl c11<|z2 (zFF underlying64 rfl sizeOf62 rfl rfl)<|z8 rfl rfl c11<|z2 (yo (j := 1) underlying62 sizeOf3 rfl rfl rfl (by decide) rfl)<|z8 rfl rfl c11<|z2 (zLi isAgg3 rfl)<|z8 rfl rfl c11<|z2 (y3 rfl rfl)<|z8 rfl rfl c9<|z2 (zPf rfl c11 rfl)<|z8 rfl rfl rfl<|z2 (zPt rfl c9 rfl)<|z2 (zPf rfl rfl rfl)<|z2 (zMb rfl)<|zl (s := 142) rfl (fun c12=>?_) (fun c12=>?_)
         ·refine z7 rfl rfl c12<|z7 rfl rfl c12<|z7 rfl rfl c12<|z7 rfl rfl c12<|zb rfl rfl<|zb rfl rfl<|zb rfl rfl<|zb rfl rfl<|z7 rfl rfl c12<|z2 (zPt rfl c12 rfl)<|z6 ?_
          exact ⟨_, zR4, zR1, zLe, by simp_all [termT] <;> omega⟩
         ·refine z8 rfl rfl c12<|z2 (zFF underlying64 rfl sizeOf61 rfl rfl)<|z8 rfl rfl c12<|z2 (zLi isAgg61 rfl)<|z8 rfl rfl c12<|z2 (y3 rfl rfl)<|z8 rfl rfl c12<|z2 (zMb rfl)<|zl (s := 146) rfl (fun c13=>?_) (fun c13=>?_)
          ·refine z8 rfl rfl c13<|z2 (zFF underlying64 rfl sizeOf62 rfl rfl)<|z8 rfl rfl c13<|z2 (yo (j := 0) underlying62 sizeOf3 rfl rfl rfl (by decide) rfl)<|z8 rfl rfl c13<|z2 (zLi isAgg3 rfl)<|z8 rfl rfl c13<|z2 (y3 rfl rfl)<|z8 rfl rfl c12<|z2 (zPt rfl c13 rfl)<|z2 (zPf rfl c12 rfl)<|z6 ?_
           exact ⟨_, zR4, zR1, zLe, by simp_all [termT] <;> omega⟩
          ·refine z7 rfl rfl c13<|z7 rfl rfl c13<|z7 rfl rfl c13<|z7 rfl rfl c13<|z8 rfl rfl c12<|z2 (zPf rfl c13 rfl)<|z2 (zPf rfl c12 rfl)<|z6 ?_
           exact ⟨_, zR4, zR1, zLe, by simp_all [termT] <;> omega⟩
      ·refine z7 rfl rfl c9<|z7 rfl rfl c9<|z7 rfl rfl c9<|z7 rfl rfl c9<|z7 rfl rfl c9<|z7 rfl rfl c9<|zb rfl rfl<|zb rfl rfl<|zb rfl rfl<|zb rfl rfl<|z7 rfl rfl c9<|z7 rfl rfl c9<|zb rfl rfl<|zb rfl rfl<|zb rfl rfl<|zb rfl rfl<|z7 rfl rfl c9<|z8 rfl rfl rfl<|z2 (zPf rfl c9 rfl)<|z2 (zPf rfl rfl rfl)<|z2 (zMb rfl)<|z8 rfl rfl rfl<|z2 (zFF underlying64 rfl sizeOf61 rfl rfl)<|z8 rfl rfl rfl<|z2 (zLi isAgg61 rfl)<|z8 rfl rfl rfl<|z2 (y3 rfl rfl)<|z8 rfl rfl rfl<|z2 (zMb rfl)<|zl (s := 146) rfl (fun c14=>?_) (fun c14=>?_)
       ·refine z8 rfl rfl c14<|z2 (zFF underlying64 rfl sizeOf62 rfl rfl)<|z8 rfl rfl c14<|z2 (yo (j := 0) underlying62 sizeOf3 rfl rfl rfl (by decide) rfl)<|z8 rfl rfl c14<|z2 (zLi isAgg3 rfl)<|z8 rfl rfl c14<|z2 (y3 rfl rfl)<|z8 rfl rfl rfl<|z2 (zPt rfl c14 rfl)<|z2 (zPf rfl rfl rfl)<|z6 ?_
        exact ⟨_, zR4, zR1, zLe, by simp_all [termT] <;> omega⟩
       ·refine z7 rfl rfl c14<|z7 rfl rfl c14<|z7 rfl rfl c14<|z7 rfl rfl c14<|z8 rfl rfl rfl<|z2 (zPf rfl c14 rfl)<|z2 (zPf rfl rfl rfl)<|z6 ?_
        exact ⟨_, zR4, zR1, zLe, by simp_all [termT] <;> omega⟩
    ·rintro u hu
     subst hu
     refine zr rfl (fun ct=>?_) (fun ct=>?_)
     ·have dt : termT f b.term = false := by simpa using ct
      refine zSr<|z2 (zAb rfl)<|z6<|zf<|zj (x := .bool _) rfl ?_
      rw [hbad (by unfold blkT; rw [hjall, hkall, dt]; rfl)]
     ·have dt : termT f b.term = true := by simpa using ct
      refine zc<|zRg<|z2 (zAd rfl rfl)<|z2 (zMi rfl)<|z6 ?_
      exact ⟨i + 1, zR3, zR1, zLe, ⟨hi2, all_take hi2 hall (by rw [hbi]; unfold blkT; rw [hjall, hkall, dt]; rfl)⟩, by omega⟩
 ·have hin : i = f.blocks.length := by simp at ci; omega
  rw [hin, qo] at hall
  refine y4<|zSr<|z2 (zAb rfl)<|z6<|zf<|zj (x := .bool _) rfl ?_
  rw [hall]
end Go.Proofs.YtjnpcfpecilejaaGreatDoor
namespace Go.Proofs.YtjnpcfpecilejaaGreatDoor
open Go.Proofs.Tryz
open Go.Proofs
def lC (l : List Rng) : List AV := eP.av l
theorem lC_len (l : List Rng) : (lC l).length = l.length * 2 := eP.av_len l
theorem lC_push (l : List Rng) (r : Rng) : lC l ++ encZ r = lC (l ++ [r]) := eP.av_push l r
theorem lC_cons (r : Rng) (l : List Rng) : lC (r :: l) = .int .i64 r.1 :: .int .i64 r.2 :: lC l := rfl
theorem lC_drop : ∀ (l : List Rng) (j : Nat), (lC l).drop (j * 2) = lC (l.drop j)
 | l, 0 => by simp
 | [], j + 1 => by simp [lC, Enc.av]
 | r :: l, j + 1 => by
  rw [show (j + 1) * 2 = j * 2 + 1 + 1 by omega, lC_cons, List.drop_succ_cons, List.drop_succ_cons, lC_drop l j, List.drop_succ_cons]
theorem lC_get {l : List Rng} {j : Nat} {r : Rng} (h : l[j]? = some r) : (lC l).drop (j * 2) = .int .i64 r.1 :: .int .i64 r.2 :: lC (l.drop (j + 1)) := by
 obtain ⟨hj, e⟩ := List.getElem?_eq_some_iff.1 h
 rw [lC_drop, List.drop_eq_getElem_cons hj, e, lC_cons]
theorem lC_ne {l : List Rng} {j : Nat} (h : j < l.length) : lC l ≠ [] := fun e => by have := lC_len l; rw [e] at this; simp at this; omega
section
variable {E : World} {P : Program} {ops : Array Oper} {K : AEnv → OL → Prop} {env : AEnv} {O O' O'' : OL} {rest : List Oper} {n : Nat}
variable {d ty : Nat} {pos : String} {af : Array Edge} {x y z : Operand} {t u e T : TypeId}
theorem Gv.idxR {i n j : Nat} {a : Int} {T : TypeId} {l : List Rng} (ht : P.underlying t = some (.slice e)) (hs : ∀ w, (sizeOf e).run P w = .ok 2 w) (hx : aev env x = .own i n) (hy : aev env y = .int .i64 a) (hi : a = (j : Int)) (hO : Has O i (.grow 2 T (lC l))) (hn : l.length = n) (hj : j < n) :
  Gv P env O (Oper.mk (some d) (.indexAddr t x y) ty pos af none) (.po i (j * 2)) := Gv.idxO ht hs hx hy hi hO (lC_ne (j := j) (by omega)) hj
theorem Gv.loadR {i j : Nat} {T : TypeId} {l : List Rng} {r : Rng} (ha : ∀ w, (isAgg t).run P w = .ok true w) (hs : ∀ w, (sizeOf t).run P w = .ok 2 w) (hx : aev env x = .po i (j * 2)) (hO : Has O i (.grow 2 T (lC l))) (hv : l[j]? = some r) :
  Gv P env O (Oper.mk (some d) (.load t x) ty pos af none) (.agg (encZ r)) := by
 have hj := (List.getElem?_eq_some_iff.1 hv).1
 exact Gv.loadAG ha hs hx hO (lC_ne hj) (by rw [lC_len]; omega) (by rw [lC_get hv]; rfl)
theorem GStep.knowR {t i m : Nat} {T : TypeId} {l : List Rng} (hv : env t = .own i m) (hO : Pick O i (.grow 2 T (lC l)) O') (hm : l.length = m) : GStep E env O (aupd env t (.fro 2 (l.map encZ))) O' :=
 GStep.know hv (rows := l.map encZ) (by
  have : (l.map encZ).flatten = lC l := by unfold lC Enc.av; rw [List.flatMap]; rfl
  rw [this]; exact hO) (fun r hr => by obtain ⟨_, _, rfl⟩ := List.mem_map.1 hr; rfl) (by decide) (by rw [qq]; exact hm)
end
structure RdL (P : Program) (te ee : TypeId) (Lv : AV) (ptr : Nat → AV) (i : Nat) (HL : AObj) (l : List Rng) : Prop where
 idx : ∀ {env : AEnv} {O : OL} {d ty : Nat} {pos : String} {af : Array Edge} {x y : Operand} {a : Int} {j : Nat}, aev env x = Lv → aev env y = .int .i64 a → a = (j : Int) → j < l.length → Has O i HL → Gv P env O (Oper.mk (some d) (.indexAddr te x y) ty pos af none) (ptr j)
 load : ∀ {env : AEnv} {O : OL} {d ty : Nat} {pos : String} {af : Array Edge} {x : Operand} {j : Nat} {r : Rng}, aev env x = ptr j → l[j]? = some r → Has O i HL → Gv P env O (Oper.mk (some d) (.load ee x) ty pos af none) (.agg (encZ r))
def ptrF (l : List Rng) (j : Nat) : AV := .pf (encZ ((l[j]?).getD noR))
def ptrO (i : Nat) (j : Nat) : AV := .po i (j * 2)
theorem RdL.fro {P : Program} {te ee : TypeId} (ht : P.underlying te = some (.slice ee)) (hs : ∀ w, (sizeOf ee).run P w = .ok 2 w) (ha : ∀ w, (isAgg ee).run P w = .ok true w) (i : Nat) (HL : AObj) (l : List Rng) : RdL P te ee (.fro 2 (l.map encZ)) (ptrF l) i HL l where
 idx hx hy hi hj _ := q8 ht hs hx hy hi (by rw [qj hj]; rfl)
 load hx hv _ := zk ha hs (cs := encZ _) (by rw [hx]; unfold ptrF; rw [hv]; rfl) rfl
theorem RdL.own {P : Program} {te ee : TypeId} (ht : P.underlying te = some (.slice ee)) (hs : ∀ w, (sizeOf ee).run P w = .ok 2 w) (ha : ∀ w, (isAgg ee).run P w = .ok true w) (i : Nat) (T : TypeId) (l : List Rng) (n : Nat) (hn : l.length = n) : RdL P te ee (.own i n) (ptrO i) i (.grow 2 T (lC l)) l where
 idx hx hy hi hj hO := Gv.idxR ht hs hx hy hi hO hn (by omega)
 load hx hv hO := Gv.loadR ha hs hx hO hv
end Go.Proofs.YtjnpcfpecilejaaGreatDoor
namespace Go.Proofs.YtjnpcfpecilejaaGreatDoor
open Go.Proofs.Tryz
open Go.Proofs Go.Lib Go.Shelf Go.RowKit
theorem ps82_1 : PlacesS prog 82 111 1 1 [.raw (.slice none 0 0)] := ⟨_, underlying82, sizeOf111, zeroValue111, by decide, by decide, by kernel_rfl⟩
variable {E : World}
set_option maxRecDepth 20000
def outC (rows : List (List Bool)) : List AV := (rows.map fun r => [AV.fro 1 (r.map encB)]).flatten
theorem outC_push (rows : List (List Bool)) (r : List Bool) : outC rows ++ [AV.fro 1 (r.map encB)] = outC (rows ++ [r]) := by unfold outC; simp
theorem outC_len (rows : List (List Bool)) : (outC rows).length = rows.length := by unfold outC; induction rows with
 | nil => rfl
 | cons r rows ih => simp only [List.map_cons, List.flatten_cons, qp, ih, List.length_cons, List.length_nil]; omega
def froB (rows : List (List Bool)) : AV := .fro 1 (rows.map fun r => [AV.fro 1 (r.map encB)])
set_option maxHeartbeats 4000000 in
theorem refTable_spec (f : PFunc) (hE : EndsOk f) (hn : f.blocks.length ≤ 1000) : AFun prog E 42 [.agg (encF f)] (froB (tabR f)) := by
 have hG := hE.grph
 refine zo func42 rfl (by decide) rfl<|zSr<|y7 (cs := _) rfl rfl rfl<|z2 (zAr rfl)<|z6<|zSr<|z2 (zk isAgg26 sizeOf26 rfl rfl)<|ze (reached_spec f hE hn (-1)) rfl<|z2 (zAf rfl)<|z6<|zSr<|z2 (zAr rfl)<|z6<|za<|zSr<|z2 (zFF underlying26 rfl sizeOf24 rfl rfl)<|z2 (zLf isAgg24 rfl)<|z2 (zz underlying24 rfl)<|z2 (zMi rfl)<|z6<|adopt_wp (t := 4) (k := 1) (T := 111) rfl<|fun i4 => zh<|y6 (γ := Nat × Nat) [1, 3, 13] (fun g => [(14, .int .i64 g.1), (4, .own g.2 g.1)]) (fun g => [(g.2, .grow 1 111 (outC ((tabR f).take g.1)))]) (fun g => g.1 ≤ f.blocks.length) (fun g => f.blocks.length - g.1) (0, i4) zR2 zLe (qm _) ?_
 rintro ⟨k, io⟩ hk
 try dsimp only at *
 refine zSr<|z2 (y8 rfl rfl)<|z6<|za<|zp rfl (fun ck=>?_) (fun ck=>?_)
 ·have hk2 : k < f.blocks.length := by simp at ck; omega
  have hgk := reach_gb (EndsOf f) hk2 (-1)
  refine zc<|za<|zh<|zSr<|z2 (zMi rfl)<|z2 (zAi rfl)<|z6<|zSr<|z2 (zFF underlying26 rfl sizeOf24 rfl rfl)<|z2 (zLf isAgg24 rfl)<|z2 (zz underlying24 rfl)<|AOps.makeB (m := f.blocks.length) underlying111 type4 rfl rfl rfl rfl rfl (by simp) (by simp) (by show (1 : Int) * _ ≤ _; omega) (by omega)<|fun i20 => z2 (zAo rfl)<|z6<|za<|zSr<|z2 (zMf rfl)<|z2 (zMi rfl)<|z2 (zIM k underlying111 sizeOf4 rfl rfl rfl hgk)<|z2 (yu (c := .bool _) isAgg4 rfl)<|z6<|yc (γ := Nat) [1, 3, 4, 13, 14] (fun q => [(6, .own q f.blocks.length)]) (fun q => [(q, .grow 1 4 (cB (rowR f k))), (io, .grow 1 111 (outC ((tabR f).take k)))]) (fun q => True) ?_ (fun _ _ h => h) ?_
  ·refine zr rfl (fun cr=>?_) (fun cr=>?_)
   ·have hra : gb (reachT (EndsOf f) f.blocks.length (-1)) (k : Int) = true := cr
    refine zSr<|z2 (zk isAgg26 sizeOf26 rfl rfl)<|z2 (zMi rfl)<|ze (reached_spec f hE hn (k : Int)) rfl<|z2 (zAf rfl)<|z6<|zSr<|z2 (zMo rfl)<|z2 (Gv.lenO underlying111 rfl)<|z2 (zMi rfl)<|z6<|zh<|y6 (γ := Nat) [1, 3, 4, 5, 6, 7, 13, 14, 29] (fun j => [(30, .int .i64 j)]) (fun j => [(i20, .grow 1 4 (cB (rowTo f k j))), (io, .grow 1 111 (outC ((tabR f).take k)))]) (fun j => j ≤ f.blocks.length) (fun j => f.blocks.length - j) 0 zR1 ⟨_, (.refl _), by rw [← rowTo_zero]⟩ (qm _) ?_
    rintro j hj
    refine zSr<|z2 (y8 rfl rfl)<|z6<|za<|zp rfl (fun cj=>?_) (fun cj=>?_)
    ·have hj2 : j < f.blocks.length := by simp at cj; omega
     have hgj := reach_gb (EndsOf f) hj2 (-1)
     have hgl := reach_gb (EndsOf f) hj2 (k : Int)
     have hcell := dom_cell hG hk2 hj2 hra
     refine zc<|za<|zh<|zSr<|z2 (zMi rfl)<|z2 (zAi rfl)<|z6<|zRg<|z2 (zMo rfl)<|z2 (zMi rfl)<|z2 (zMf rfl)<|z2 (zMi rfl)<|z2 (zIM j underlying111 sizeOf4 rfl rfl rfl hgj)<|z2 (yu (c := .bool _) isAgg4 rfl)<|z2 (zMb rfl)<|zl (s := 39) rfl (fun c1=>?_) (fun c1=>?_)
     ·have d1 : gb (reachT (EndsOf f) f.blocks.length (-1)) (j : Int) = true := c1
      refine z8 rfl rfl c1<|z2 (zMi rfl)<|z8 rfl rfl c1<|z2 (zMi rfl)<|z8 rfl rfl c1<|z2 (y3 rfl rfl)<|z8 rfl rfl c1<|z2 (zMb rfl)<|zl (s := 43) rfl (fun c2=>?_) (fun c2=>?_)
      ·refine z7 rfl rfl c2<|z7 rfl rfl c2<|z7 rfl rfl c2<|z7 rfl rfl c2<|z7 rfl rfl c2<|z8 rfl rfl c1<|z2 (zPt rfl c2 rfl)<|z2 (zPt rfl c1 rfl)<|z2 (yx (j := j) underlying111 sizeOf4 rfl rfl rfl ⟨_, .head⟩ (by rw [cB_len, rowTo_len]) hj2)<|AOps.storeB (j := j) sizeOf4 rfl rfl .head (by rw [rowTo_len]; exact hj2)<|z6<|zRg<|z2 (zAd rfl rfl)<|z2 (zMi rfl)<|z6 ?_
       exact ⟨j + 1, zR9, zR1, ⟨_, (.refl _), by rw [← rowTo_succ, ← hcell, d1, show decide ((k : Int) = (j : Int)) = true from c2]; rfl⟩, hj2, by omega⟩
      ·refine z8 rfl rfl c2<|z2 (zMf rfl)<|z8 rfl rfl c2<|z2 (zMi rfl)<|z8 rfl rfl c2<|z2 (zIM j underlying111 sizeOf4 rfl rfl rfl hgl)<|z8 rfl rfl c2<|z2 (yu (c := .bool _) isAgg4 rfl)<|z8 rfl rfl c2<|z2 (yd rfl)<|z8 rfl rfl c1<|z2 (zPf rfl c2 rfl)<|z2 (zPt rfl c1 rfl)<|z2 (yx (j := j) underlying111 sizeOf4 rfl rfl rfl ⟨_, .head⟩ (by rw [cB_len, rowTo_len]) hj2)<|AOps.storeB (j := j) sizeOf4 rfl rfl .head (by rw [rowTo_len]; exact hj2)<|z6<|zRg<|z2 (zAd rfl rfl)<|z2 (zMi rfl)<|z6 ?_
       exact ⟨j + 1, zR9, zR1, ⟨_, (.refl _), by rw [← rowTo_succ, ← hcell, d1, show decide ((k : Int) = (j : Int)) = false from c2]; rfl⟩, hj2, by omega⟩
     ·have d1 : gb (reachT (EndsOf f) f.blocks.length (-1)) (j : Int) = false := c1
      refine z7 rfl rfl c1<|z7 rfl rfl c1<|z7 rfl rfl c1<|z7 rfl rfl c1<|zb rfl rfl<|zb rfl rfl<|zb rfl rfl<|zb rfl rfl<|zb rfl rfl<|z7 rfl rfl c1<|z2 (zPf rfl c1 rfl)<|z2 (yx (j := j) underlying111 sizeOf4 rfl rfl rfl ⟨_, .head⟩ (by rw [cB_len, rowTo_len]) hj2)<|AOps.storeB (j := j) sizeOf4 rfl rfl .head (by rw [rowTo_len]; exact hj2)<|z6<|zRg<|z2 (zAd rfl rfl)<|z2 (zMi rfl)<|z6 ?_
      exact ⟨j + 1, zR9, zR1, ⟨_, (.refl _), by rw [← rowTo_succ, ← hcell, d1]; rfl⟩, hj2, by omega⟩
    ·have hjn : j = f.blocks.length := by simp at cj; omega
     refine y4 ?_
     exact ⟨i20, zR5, zR1, ⟨_, (.refl _), by rw [hjn, rowTo_all]⟩, trivial⟩
   ·have hra : gb (reachT (EndsOf f) f.blocks.length (-1)) (k : Int) = false := cr
    refine zc ?_
    exact ⟨i20, zR5, zR1, ⟨_, (.refl _), by rw [← row_none hG hk2 hra, ← rowTo_zero]⟩, trivial⟩
  ·rintro q _
   refine yf (GStep.knowB (t := 6) rfl .head (rowR_len _ _))<|zRg<|z2 (zMo rfl)<|z2 (zMf rfl)<|zw (rows := [[_]]) ps82_1 rfl rfl rfl rfl rfl<|yl (k := 1) underlying82 type111 rfl rfl rfl rfl rfl (fun _ => .head) (by rw [outC_len, List.length_take, tabR_len]; omega) (by decide) rfl (by show (_ + 1) * 24 ≤ _; omega) (by show _ + 1 ≤ _; omega)<|fun i56 => z2 (zAo rfl)<|z6<|zRg<|z2 (zAd rfl rfl)<|z2 (zMi rfl)<|z6 ?_
   exact ⟨(k + 1, i56), zR3, zR2, ⟨_, (.refl _), by rw [tabR_take hk2, ← outC_push]; rfl⟩, hk2, by dsimp only; omega⟩
 ·have hkn : k = f.blocks.length := by simp at ck; omega
  subst hkn
  rw [show f.blocks.length = (tabR f).length from (tabR_len f).symm, qo, tabR_len]
  refine y4<|zSr<|z2 (zMo rfl)<|z2 (zAo rfl)<|z6<|zf ?_
  repeat (first | refine aseqQ_ret ?_ | refine ablockQ_ret ?_)
  refine GStep.fin (GStep.know (t := 2) (rows := (tabR f).map fun r => [AV.fro 1 (r.map encB)]) rfl .head (by (intro r hr; obtain ⟨x, _, rfl⟩ := List.mem_map.1 hr; rfl)) (by decide) (by (rw [qq]; exact tabR_len f)))<|zj (x := .fro _ _) rfl ?_
  rfl
theorem refIs_spec (x : PInst) (op : Int) (args : List Int) (hx : x.args.length ≤ 100000) (ha : args.length ≤ 100000) : AFun prog E 19 [.agg (encInst x), .int .i64 op, .fro 1 (args.map encI)] (.bool (decide (x.op = op) && decide (x.args = args))) := by
 refine zo func19 rfl (by decide) rfl<|zSr<|y7 (cs := _) rfl rfl rfl<|z2 (zAb rfl)<|z6<|za<|za<|yc (γ := Bool) [2, 3] (fun u => [(19, .bool u)]) (fun u => []) (fun u => u = !(decide (x.op = op) && decide (x.args.length = args.length))) ?_ (fun _ _ h => h) ?_
 ·refine zRg<|z2 (zFF underlying33 rfl sizeOf31 rfl rfl)<|z2 (zLi isAgg31 rfl)<|z2 (zMi rfl)<|z2 (yi rfl rfl)<|z2 (zMb rfl)<|zl (s := 12) rfl (fun c1=>?_) (fun c1=>?_)
  ·refine z7 rfl rfl c1<|z7 rfl rfl c1<|z7 rfl rfl c1<|z7 rfl rfl c1<|z7 rfl rfl c1<|z7 rfl rfl c1<|z2 (zPt rfl c1 rfl)<|z6 ?_
   exact ⟨_, zR2, zR1, zLe, by simp_all <;> omega⟩
  ·refine z8 rfl rfl c1<|z2 (zFF underlying33 rfl sizeOf23 rfl rfl)<|z8 rfl rfl c1<|z2 (zLf isAgg23 rfl)<|z8 rfl rfl c1<|z2 (zz underlying23 rfl)<|z8 rfl rfl c1<|z2 (zMf rfl)<|z8 rfl rfl c1<|z2 (zz underlying23 rfl)<|z8 rfl rfl c1<|z2 (yi rfl rfl)<|z2 (zPf rfl c1 rfl)<|z6 ?_
   exact ⟨_, zR2, zR1, zLe, by simp_all <;> omega⟩
 ·rintro u hu
  subst hu
  refine zr rfl (fun c0=>?_) (fun c0=>?_)
  ·have h0 : (decide (x.op = op) && decide (x.args.length = args.length)) = false := by rwa [Bool.not_eq_true'] at c0
   refine zSr<|z2 (zAb rfl)<|z6<|zf<|zj (x := .bool _) rfl ?_
   exact jb (by
    rcases Bool.and_eq_false_iff.1 h0 with h | h
    ·rw [h]; rfl
    ·rw [qv (p := x.args = args) (fun e => absurd (congrArg List.length e) (w3 h)), Bool.and_false])
  ·have h0 : (decide (x.op = op) && decide (x.args.length = args.length)) = true := by simpa using c0
   have h1 : x.op = op := by rw [qw, w4, w4] at h0; exact h0.1
   have h2 : x.args.length = args.length := by rw [qw, w4, w4] at h0; exact h0.2
   refine zc<|za<|zSr<|z2 (zMf rfl)<|z2 (zz underlying23 rfl)<|z2 (zMi rfl)<|z6<|zh<|y6 (γ := Nat) [2, 3, 21] (fun k => [(22, .int .i64 k)]) (fun k => []) (fun k => k ≤ args.length ∧ x.args.take k = args.take k) (fun k => args.length - k) 0 zR1 zLe (⟨qm _, rfl⟩) ?_
   rintro k ⟨hk, hall⟩
   refine zSr<|z2 (y8 rfl rfl)<|z6<|za<|zp rfl (fun ck=>?_) (fun ck=>?_)
   ·have hk2 : k < args.length := by simp at ck; omega
    have hk3 : k < x.args.length := by omega
    refine zc<|za<|zh<|zSr<|z2 (zMi rfl)<|z2 (zAi rfl)<|z6<|za<|y1 (fun j => false) (by kernel_rfl) rfl (zn (.rest _))<|zTk 0 rfl (zFF underlying33 rfl sizeOf23 rfl rfl)<|zTk 1 rfl (zLf isAgg23 rfl)<|zTk 2 rfl (zMi rfl)<|zTk 3 rfl (zIM k underlying23 sizeOf3 rfl rfl rfl (qj hk3))<|zTk 4 rfl (zLi isAgg3 rfl)<|zTk 5 rfl (zMf rfl)<|zTk 6 rfl (zMi rfl)<|zTk 7 rfl (zIM k underlying23 sizeOf3 rfl rfl rfl (qj hk2))<|zTk 8 rfl (zLi isAgg3 rfl)<|zTk 9 rfl (yi rfl rfl)<|zDn<|zr rfl (fun cn=>?_) (fun cn=>?_)
    ·have hne : ¬ x.args[k] = args[k] := by simpa using cn
     refine zSr<|z2 (zAb rfl)<|z6<|zf<|zj (x := .bool _) rfl ?_
     exact jb (by rw [qv (p := x.args = args) (fun e => hne (by simp only [e])), Bool.and_false])
    ·have heq : x.args[k] = args[k] := by simpa using cn
     refine zc<|zRg<|z2 (zAd rfl rfl)<|z2 (zMi rfl)<|z6 ?_
     exact ⟨k + 1, zR3, zR1, zLe, ⟨hk2, by rw [qk hk3, qk hk2, hall, heq]⟩, by omega⟩
   ·have hkn : k = args.length := by simp at ck; omega
    have he : x.args = args := by rw [hkn, qo, ← h2, qo] at hall; exact hall
    refine y4<|zSr<|z2 (zAb rfl)<|z6<|zf<|zj (x := .bool _) rfl ?_
    exact jb (by rw [qu h1, qu he]; rfl)
set_option maxHeartbeats 4000000 in
theorem refChecked_spec (f : PFunc) (hf : small f) (x : PInst) (hx : x.args.length ≤ 1000) (block : Nat) (at_ : Int) (hb : block < f.blocks.length) : AFun prog E 78 [.agg (encF f), froB (tabR f), .agg (encInst x), .int .i64 block, .int .i64 at_] (.bool (chkX f x block at_)) := by
 have hn := hf.2.2.1
 refine zo func78 rfl (by decide) rfl<|zSr<|y7 (cs := _) rfl rfl rfl<|y7 (cs := _) rfl rfl rfl<|z2 (zAb rfl)<|z6<|zSr<|z2 (zAi rfl)<|z6<|za<|zSr<|z2 (zFF underlying33 rfl sizeOf31 rfl rfl)<|z2 (zLi isAgg31 rfl)<|z6 ?_
 by_cases hs : isSum x.op = true
 ·have hs3 : x.op = 2 ∨ x.op = 3 ∨ x.op = 4 := by simpa [isSum] using hs
  rw [chkX, hs, Bool.true_and]
  refine yc (γ := Int) [1, 3, 4, 5, 7] (fun op => [(11, .int .i64 op)]) (fun op => []) (fun op => op = x.op + 19) ?_ (fun _ _ h => h) ?_
  ·refine zh<|zSr<|z2 (y3 rfl rfl)<|z2 (zAb rfl)<|z6<|zp rfl (fun c2=>?_) (fun c2=>?_)
   ·refine zRg<|z2 (zAi rfl)<|z6 ?_
    exact ⟨_, zR5, zR1, zLe, by omega⟩
   ·refine zSr<|z2 (y3 rfl rfl)<|z2 (zAb rfl)<|z6<|zp rfl (fun c3=>?_) (fun c3=>?_)
    ·refine zRg<|z2 (zAi rfl)<|z6 ?_
     exact ⟨_, zR5, zR1, zLe, by omega⟩
    ·refine zSr<|z2 (y3 rfl rfl)<|z2 (zAb rfl)<|z6<|zp rfl (fun c4=>?_) (fun c4=>?_)
     ·refine zRg<|z2 (zAi rfl)<|z6 ?_
      exact ⟨_, zR5, zR1, zLe, by omega⟩
     ·exfalso; omega
  ·rintro op hop
   subst hop
   refine za<|zSr<|z2 (zFF underlying26 rfl sizeOf24 rfl rfl)<|z2 (zLf isAgg24 rfl)<|z2 (zz underlying24 rfl)<|z2 (zMi rfl)<|z6<|zh<|y6 (γ := Nat) [1, 3, 4, 7, 11, 25, 26] (fun i => [(27, .int .i64 i)]) (fun i => []) (fun i => i ≤ f.blocks.length ∧ (List.range i).any (chkI f (x.op + 19) x.args block at_) = false) (fun i => f.blocks.length - i) 0 zR1 zLe (⟨qm _, rfl⟩) ?_
   rintro i ⟨hi, hiall⟩
   refine zSr<|z2 (y8 rfl rfl)<|z6<|za<|zp rfl (fun ci=>?_) (fun ci=>?_)
   ·have hi2 : i < f.blocks.length := by simp at ci; omega
    obtain ⟨b, hbi⟩ : ∃ b, f.blocks[i] = b := ⟨_, rfl⟩
    have hget : f.blocks[i]? = some b := by rw [qj hi2, hbi]
    obtain ⟨hb0, hb1, hb2, hb3, hb4⟩ := hf.2.2.2.2 b (hbi ▸ qn hi2)
    refine zc<|za<|zh<|zSr<|z2 (zMi rfl)<|z2 (zIM i underlying24 sizeOf66 rfl rfl rfl hget)<|z2 (zk isAgg66 sizeOf66 rfl rfl)<|zq (cs := [.str ⟨#[]⟩, .raw (.slice none 0 0), .raw (.slice none 0 0), .int .i64 0, .int .i64 0, .int .i64 0, .int .i64 0]) zeroValue66 rfl rfl<|fun i13 => z2 (zAi rfl)<|zm sizeOf66 rfl rfl rfl rfl rfl rfl .head rfl<|zd (y9 (t := 13) rfl .head)<|z6<|zSr<|z2 (zFF underlying66 rfl sizeOf60 rfl rfl)<|z2 (zLf isAgg60 rfl)<|z2 (zz underlying60 rfl)<|z2 (zMi rfl)<|z6<|zh<|y6 (γ := Nat) [1, 3, 4, 7, 11, 12, 25, 26, 27, 33, 34] (fun k => [(35, .int .i64 k)]) (fun k => []) (fun k => k ≤ b.insts.length ∧ (b.insts.zipIdx.take k).any (chkQ f (x.op + 19) x.args i block at_) = false) (fun k => b.insts.length - k) 0 zR1 zLe (⟨qm _, rfl⟩) ?_
    rintro k ⟨hk, hkall⟩
    refine zSr<|z2 (y8 rfl rfl)<|z6<|za<|zp rfl (fun ck=>?_) (fun ck=>?_)
    ·have hk2 : k < b.insts.length := by simp at ck; omega
     obtain ⟨z, hz⟩ : ∃ z, b.insts[k] = z := ⟨_, rfl⟩
     have hzl := hb4 z (hz ▸ qn hk2)
     have hzi : k < b.insts.zipIdx.length := by simp; exact hk2
     have hze : b.insts.zipIdx[k] = (z, k) := by simp [hz]
     have hah : ∀ r, aheadB f ((i : Int), (k : Int)) block at_ = r → chkQ f (x.op + 19) x.args i block at_ b.insts.zipIdx[k] = (decide (z.op = x.op + 19) && decide (z.args = x.args) && r) := fun r h => by rw [hze]; unfold chkQ; rw [h]
     have hab : aheadB f ((i : Int), (k : Int)) block at_ = if (i : Int) = (block : Int) then decide ((k : Int) < at_) else domB (EndsOf f) f.blocks.length i block := by unfold aheadB; rw [if_neg (by dsimp only; omega)]
     refine zc<|za<|zh<|zSr<|z2 (zMi rfl)<|z2 (zIM k underlying60 sizeOf33 rfl rfl rfl (by rw [qj hk2, hz]))<|z2 (zk isAgg33 sizeOf33 rfl rfl)<|zq (cs := [.int .i64 0, .int .i64 0, .raw (.slice none 0 0), .int .i64 0]) zeroValue33 rfl rfl<|fun i15 => z2 (zAi rfl)<|zm sizeOf33 rfl rfl rfl rfl rfl rfl .head rfl<|zd (y9 (t := 15) rfl .head)<|z6<|za<|yc (γ := Bool) [1, 3, 4, 7, 11, 12, 25, 26, 27, 33, 34, 35] (fun u => [(68, .bool u)]) (fun u => []) (fun u => u = chkQ f (x.op + 19) x.args i block at_ b.insts.zipIdx[k]) ?_ (fun _ _ h => h) ?_
     ·refine zRg<|z2 (zk isAgg33 sizeOf33 rfl rfl)<|z2 (zMi rfl)<|z2 (zFF underlying33 rfl sizeOf23 rfl rfl)<|z2 (zLf isAgg23 rfl)<|ze (refIs_spec z (x.op + 19) x.args (by omega) (by omega)) rfl<|z2 (zMb rfl)<|zl (s := 45) rfl (fun c2=>?_) (fun c2=>?_)
      ·refine z8 rfl rfl c2<|z2 (zMi rfl)<|z8 rfl rfl c2<|z2 (zMi rfl)<|z8 rfl rfl c2<|z2 (y3 rfl rfl)<|z8 rfl rfl c2<|z2 (zMb rfl)<|zl (s := 49) rfl (fun c3=>?_) (fun c3=>?_)
       ·refine z8 rfl rfl c3<|z2 (zMi rfl)<|z8 rfl rfl c3<|z2 (zMi rfl)<|z8 rfl rfl c3<|z2 (y8 rfl rfl)<|z8 rfl rfl c2<|z2 (zPt rfl c3 rfl)<|z8 rfl rfl c2<|z2 (zMb rfl)<|zl (s := 54) rfl (fun c4=>?_) (fun c4=>?_)
        ·refine z7 rfl rfl c4<|z7 rfl rfl c4<|z7 rfl rfl c4<|z7 rfl rfl c4<|zb rfl rfl<|zb rfl rfl<|zb rfl rfl<|zb rfl rfl<|zb rfl rfl<|zb rfl rfl<|zb rfl rfl<|z7 rfl rfl c4<|z8 rfl rfl c2<|z2 (zPt rfl c4 rfl)<|z2 (zPt rfl c2 rfl)<|z6 ?_
         exact ⟨_, zR12, zR1, zLe, by rw [hah _ hab]; by_cases h9 : (i : Int) = (block : Int) <;> simp_all⟩
        ·refine z8 rfl rfl c4<|z2 (zMi rfl)<|z8 rfl rfl c4<|z2 (zMi rfl)<|z8 rfl rfl c4<|z2 (yi rfl rfl)<|z8 rfl rfl c4<|z2 (zMb rfl)<|zl (s := 58) rfl (fun c5=>?_) (fun c5=>?_)
         ·refine z8 rfl rfl c5<|z2 (zMf rfl)<|z8 rfl rfl c5<|z2 (zMi rfl)<|z8 rfl rfl c5<|z2 (zIM i underlying82 sizeOf111 rfl rfl rfl (tabR_get hi2))<|z8 rfl rfl c5<|z2 (zLf isAgg111 rfl)<|z8 rfl rfl c5<|z2 (zMi rfl)<|z8 rfl rfl c5<|z2 (zIM block underlying111 sizeOf4 rfl rfl rfl (rowR_get hb))<|z8 rfl rfl c5<|z2 (yu (c := .bool _) isAgg4 rfl)<|z8 rfl rfl c4<|z2 (zPt rfl c5 rfl)<|z8 rfl rfl c2<|z2 (zPf rfl c4 rfl)<|z2 (zPt rfl c2 rfl)<|z6 ?_
          exact ⟨_, zR12, zR1, zLe, by rw [hah _ hab]; by_cases h9 : (i : Int) = (block : Int) <;> simp_all⟩
         ·refine z7 rfl rfl c5<|z7 rfl rfl c5<|z7 rfl rfl c5<|z7 rfl rfl c5<|z7 rfl rfl c5<|z7 rfl rfl c5<|z7 rfl rfl c5<|z8 rfl rfl c4<|z2 (zPf rfl c5 rfl)<|z8 rfl rfl c2<|z2 (zPf rfl c4 rfl)<|z2 (zPt rfl c2 rfl)<|z6 ?_
          exact ⟨_, zR12, zR1, zLe, by rw [hah _ hab]; by_cases h9 : (i : Int) = (block : Int) <;> simp_all⟩
       ·refine z7 rfl rfl c3<|z7 rfl rfl c3<|z7 rfl rfl c3<|z8 rfl rfl c2<|z2 (zPf rfl c3 rfl)<|z8 rfl rfl c2<|z2 (zMb rfl)<|z8 rfl rfl rfl<|z2 (zMi rfl)<|z8 rfl rfl rfl<|z2 (zMi rfl)<|z8 rfl rfl rfl<|z2 (yi rfl rfl)<|z8 rfl rfl rfl<|z2 (zMb rfl)<|zl (s := 58) rfl (fun c6=>?_) (fun c6=>?_)
        ·refine z8 rfl rfl c6<|z2 (zMf rfl)<|z8 rfl rfl c6<|z2 (zMi rfl)<|z8 rfl rfl c6<|z2 (zIM i underlying82 sizeOf111 rfl rfl rfl (tabR_get hi2))<|z8 rfl rfl c6<|z2 (zLf isAgg111 rfl)<|z8 rfl rfl c6<|z2 (zMi rfl)<|z8 rfl rfl c6<|z2 (zIM block underlying111 sizeOf4 rfl rfl rfl (rowR_get hb))<|z8 rfl rfl c6<|z2 (yu (c := .bool _) isAgg4 rfl)<|z8 rfl rfl rfl<|z2 (zPt rfl c6 rfl)<|z8 rfl rfl c2<|z2 (zPf rfl rfl rfl)<|z2 (zPt rfl c2 rfl)<|z6 ?_
         exact ⟨_, zR12, zR1, zLe, by rw [hah _ hab]; by_cases h9 : (i : Int) = (block : Int) <;> simp_all⟩
        ·refine z7 rfl rfl c6<|z7 rfl rfl c6<|z7 rfl rfl c6<|z7 rfl rfl c6<|z7 rfl rfl c6<|z7 rfl rfl c6<|z7 rfl rfl c6<|z8 rfl rfl rfl<|z2 (zPf rfl c6 rfl)<|z8 rfl rfl c2<|z2 (zPf rfl rfl rfl)<|z2 (zPt rfl c2 rfl)<|z6 ?_
         exact ⟨_, zR12, zR1, zLe, by rw [hah _ hab]; by_cases h9 : (i : Int) = (block : Int) <;> simp_all⟩
      ·refine z7 rfl rfl c2<|z7 rfl rfl c2<|z7 rfl rfl c2<|z7 rfl rfl c2<|zb rfl rfl<|zb rfl rfl<|zb rfl rfl<|z7 rfl rfl c2<|z7 rfl rfl c2<|zb rfl rfl<|zb rfl rfl<|zb rfl rfl<|zb rfl rfl<|zb rfl rfl<|zb rfl rfl<|zb rfl rfl<|zb rfl rfl<|zb rfl rfl<|zb rfl rfl<|zb rfl rfl<|zb rfl rfl<|z7 rfl rfl c2<|z2 (zPf rfl c2 rfl)<|z6 ?_
       exact ⟨_, zR12, zR1, zLe, by rw [hah _ hab]; by_cases h9 : (i : Int) = (block : Int) <;> simp_all⟩
     ·rintro u hu
      subst hu
      refine zr rfl (fun cq=>?_) (fun cq=>?_)
      ·refine zSr<|z2 (zAb rfl)<|z6<|zf<|zj (x := .bool _) rfl ?_
       exact jb (range_any_hit hi2 (by rw [chkI_at hget]; exact any_hit hzi cq)).symm
      ·refine zc<|zRg<|z2 (zAd rfl rfl)<|z2 (zMi rfl)<|z6 ?_
       exact ⟨k + 1, zR11, zR1, zLe, ⟨hk2, any_take hzi hkall (by simpa using cq)⟩, by omega⟩
    ·have hkn : k = b.insts.length := by simp at ck; omega
     rw [hkn, show b.insts.length = b.insts.zipIdx.length by simp, qo] at hkall
     refine y4<|zRg<|z2 (zAd rfl rfl)<|z2 (zMi rfl)<|z6 ?_
     exact ⟨i + 1, zR7, zR1, zLe, ⟨hi2, range_any_succ hiall (by rw [chkI_at hget]; exact hkall)⟩, by omega⟩
   ·have hin : i = f.blocks.length := by simp at ci; omega
    subst hin
    refine y4<|zSr<|z2 (zAb rfl)<|z6<|zf<|zj (x := .bool _) rfl ?_
    exact jb hiall.symm
 ·have hs3 : ¬ (x.op = 2 ∨ x.op = 3 ∨ x.op = 4) := by simpa [isSum] using hs
  refine zh<|zSr<|z2 (y3 rfl rfl)<|z2 (zAb rfl)<|z6<|zp rfl (fun c2=>?_) (fun c2=>?_)
  ·exfalso; omega
  ·refine zSr<|z2 (y3 rfl rfl)<|z2 (zAb rfl)<|z6<|zp rfl (fun c3=>?_) (fun c3=>?_)
   ·exfalso; omega
   ·refine zSr<|z2 (y3 rfl rfl)<|z2 (zAb rfl)<|z6<|zp rfl (fun c4=>?_) (fun c4=>?_)
    ·exfalso; omega
    ·refine zSr<|z2 (zAb rfl)<|z6<|zf<|zj (x := .bool _) rfl ?_
     exact jb (by rw [chkX, Bool.eq_false_iff.2 hs]; rfl)
end Go.Proofs.YtjnpcfpecilejaaGreatDoor
