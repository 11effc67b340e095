/- The first check of a block; how it comes from another block; whether it was passed there; what becomes of a program when it moves. Plain law. No conditions. -/
import Derived.Test.YtiojekbkamegdaaGreatDoorZl
import Derived.Test.YtiojekbkamegdaaGreatDoorZh
import Derived.Test.YtiojekbkamegdaaGreatDoorZd
set_option linter.unusedVariables false
set_option linter.unusedSimpArgs false
set_option linter.unusedSectionVars false
namespace Go.Proofs.YtiojekbkamegdaaGreatDoor
open Go.Proofs.Tryz
open Go.Proofs Go.Lib Go.Shelf Go.RowKit
variable {E : World}
set_option maxRecDepth 20000
theorem want_1 {f : PFunc} {x : PInst} {m : Nat} (e : x.op = 1) (h : m < (wantL f x).length) : (wantL f x)[m] = kindV f x.dst := by
 have h2 : (wantL f x)[m]? = some (kindV f x.dst) := by
  unfold wantL at h ⊢
  rw [if_pos e] at h ⊢
  simp at h
  subst h; rfl
 rw [qq h] at h2
 exact Option.some.inj h2
theorem want_2 {f : PFunc} {x : PInst} {m : Nat} (e : ¬ x.op = 1) (h : m < (wantL f x).length) (h' : m < (takesL x.op).length) : (wantL f x)[m] = (takesL x.op)[m] := by
 have h2 : (wantL f x)[m]? = some ((takesL x.op)[m]) := by
  unfold wantL
  rw [if_neg e, qq h']
 rw [qq h] at h2
 exact Option.some.inj h2
theorem term_kind {f : PFunc} {t : PTerm} (h : termOK f t = true) : t.kind = 0 ∨ t.kind = 1 ∨ t.kind = 2 := by
 unfold termOK at h
 by_cases h0 : t.kind = 0
 ·exact .inl h0
 ·rw [if_neg h0] at h
  by_cases h1 : t.kind = 1
  ·exact .inr (.inl h1)
  ·rw [if_neg h1] at h
   by_cases h2 : t.kind = 2
   ·exact .inr (.inr h2)
   ·rw [if_neg h2] at h; cases h
set_option maxHeartbeats 8000000 in
theorem refTyped_spec (f : PFunc) (hf : small f) (hS : ShapedP f) : AFun prog E 50 [.agg (encF f)] (.bool (f.blocks.all (blkT f))) := by
 have hn := hf.2.2.1
 refine zo func50 rfl (by decide) rfl<|zSr<|y9 (cs := _) rfl rfl rfl<|z2 (zAb rfl)<|z6<|zd<|zSr<|z2 (zFF underlying26 rfl sizeOf24 rfl rfl)<|z2 (zLf isAgg24 rfl)<|z2 (y2 underlying24 rfl)<|z2 (zMi rfl)<|z6<|zi<|y5 (γ := Nat) [1, 16, 17] (fun i => [(18, .int .i64 i)]) (fun i => []) (fun i => i ≤ f.blocks.length ∧ (f.blocks.take i).all (blkT f) = true) (fun i => f.blocks.length - i) 0 zR1 zLe (⟨qt _, rfl⟩) ?_
 rintro i ⟨hi, hall⟩
 refine zSr<|z2 (yb rfl rfl)<|z6<|zd<|zr rfl (fun ci=>?_) (fun ci=>?_)
 ·have hi2 : i < f.blocks.length := by simp at ci; omega
  obtain ⟨b, hbi⟩ : ∃ b, f.blocks[i] = b := ⟨_, rfl⟩
  have hget : f.blocks[i]? = some b := by rw [qq hi2, hbi]
  have hmem : b ∈ f.blocks := hbi ▸ qu hi2
  obtain ⟨hb0, hb1, hb2, hb3, hb4⟩ := hf.2.2.2.2 b hmem
  obtain ⟨hPh, hIn, hTm⟩ := hS.2.2.2.2.2 b hmem
  have hbad : blkT f b = false → f.blocks.all (blkT f) = false := fun h => Bool.eq_false_iff.2 (all_bad hi2 (by rw [hbi]; exact h))
  refine zh<|zd<|zi<|zSr<|z2 (zIM i underlying24 sizeOf58 rfl rfl rfl hget)<|z2 (zp isAgg58 sizeOf58 rfl rfl)<|zy (cs := [.str ⟨#[]⟩, .raw (.slice none 0 0), .raw (.slice none 0 0), .int .i64 0, .int .i64 0, .int .i64 0, .int .i64 0]) zeroValue58 rfl rfl<|fun i4 => zq sizeOf58 rfl rfl rfl rfl rfl rfl .head rfl<|zc (yk (t := 4) rfl .head)<|z6<|zd<|zSr<|z2 (zFF underlying58 rfl sizeOf51 rfl rfl)<|z2 (zLf isAgg51 rfl)<|z2 (y2 underlying51 rfl)<|z2 (zMi rfl)<|z6<|zi<|y5 (γ := Nat) [1, 4, 16, 17, 18, 23, 24] (fun j => [(25, .int .i64 j)]) (fun j => []) (fun j => j ≤ b.phis.length ∧ (b.phis.take j).all (phiT f) = true) (fun j => b.phis.length - j) 0 zR1 zLe (⟨qt _, rfl⟩) ?_
  rintro j ⟨hj, hjall⟩
  refine zSr<|z2 (yb rfl rfl)<|z6<|zd<|zr rfl (fun cj=>?_) (fun cj=>?_)
  ·have hj2 : j < b.phis.length := by simp at cj; omega
   obtain ⟨p, hp⟩ : ∃ p, b.phis[j] = p := ⟨_, rfl⟩
   have hpm : p ∈ b.phis := hp ▸ qu hj2
   obtain ⟨hpd, hpl, hpn, hpa, hpf⟩ := hPh p hpm
   have hpb := (hb3 p hpm).1
   refine zh<|zd<|zi<|zSr<|z2 (zIM j underlying51 sizeOf81 rfl rfl rfl (by rw [qq hj2, hp])) ?_
   refine z2 (zp isAgg81 sizeOf81 rfl rfl)<|zy (cs := [.int .i64 0, .raw (.slice none 0 0), .raw (.slice none 0 0)]) zeroValue81 rfl rfl<|fun i6 => zq sizeOf81 rfl rfl rfl rfl rfl rfl .head rfl<|zc (yk (t := 6) rfl .head)<|z6<|zSr<|z2 (zFF underlying81 rfl sizeOf23 rfl rfl)<|z2 (zLf isAgg23 rfl)<|z2 (y2 underlying23 rfl)<|z2 (zMi rfl)<|z6<|zi<|y5 (γ := Nat) [1, 4, 6, 16, 17, 18, 23, 24, 25, 30, 31] (fun k => [(32, .int .i64 k)]) (fun k => []) (fun k => k ≤ p.args.length ∧ (p.args.take k).all (fun v => decide (kindV f v = kindV f p.dst)) = true) (fun k => p.args.length - k) 0 zR1 zLe (⟨qt _, rfl⟩) ?_
   rintro k ⟨hk, hkall⟩
   refine zSr<|z2 (yb rfl rfl)<|z6<|zd<|zr rfl (fun ck=>?_) (fun ck=>?_)
   ·have hk2 : k < p.args.length := by simp at ck; omega
    obtain ⟨v, hv⟩ : ∃ v, p.args[k] = v := ⟨_, rfl⟩
    have hvv := List.all_eq_true.1 hpa v (hv ▸ qu hk2)
    refine zh<|zd<|zi<|zSr<|z2 (zIM k underlying23 sizeOf3 rfl rfl rfl (by rw [qq hk2, hv])) ?_
    refine z2 (zLi isAgg3 rfl)<|z2 (zAi rfl)<|z6<|zd<|zu (fun j => false) (by kernel_rfl) rfl (zm (.rest _))<|zTk 0 rfl (zp isAgg26 sizeOf26 rfl rfl)<|zTk 1 rfl (zMi rfl)<|zTk 3 rfl (zp isAgg26 sizeOf26 rfl rfl)<|zTk 4 rfl (zFF underlying81 rfl sizeOf3 rfl rfl)<|zTk 5 rfl (zLi isAgg3 rfl)<|zOn 2 rfl<|zf (rof_spec f v hvv) rfl<|z6<|zOn 6 rfl<|zf (rof_spec f p.dst hpd) rfl<|z6<|zTk 7 rfl (yj rfl rfl)<|zDn<|zz rfl (fun cq=>?_) (fun cq=>?_)
    ·have hq : ¬ kindV f v = kindV f p.dst := by simpa using cq
     have hph : phiT f p = false := by
      unfold phiT
      rw [show (p.args.any fun v => !decide (kindV f v = kindV f p.dst)) = true from List.any_eq_true.2 ⟨v, hv ▸ qu hk2, by simp [hq]⟩]; rfl
     refine zSr<|z2 (zAb rfl)<|z6<|zg<|zk (x := .bool _) rfl ?_
     rw [hbad (by unfold blkT; rw [show b.phis.all (phiT f) = false from Bool.eq_false_iff.2 (all_bad hj2 (by rw [hp]; exact hph))]; rfl)]
    ·have hq : kindV f v = kindV f p.dst := by simpa using cq
     refine zh<|zRg<|z2 (zAd rfl rfl)<|z2 (zMi rfl)<|z6 ?_
     exact ⟨k + 1, zR11, zR1, zLe, ⟨hk2, all_take hk2 hkall (by rw [hv]; simp [hq])⟩, by omega⟩
   ·have hkn : k = p.args.length := by simp at ck; omega
    rw [hkn, qv] at hkall
    have hph : phiT f p = true := by
     unfold phiT
     rw [show (p.args.any fun v => !decide (kindV f v = kindV f p.dst)) = false from List.any_eq_false.2 fun v hv => by have := List.all_eq_true.1 hkall v hv; simpa using this]; rfl
    refine y4<|zRg<|z2 (zAd rfl rfl)<|z2 (zMi rfl)<|z6 ?_
    exact ⟨j + 1, zR7, zR1, zLe, ⟨hj2, all_take hj2 hjall (by rw [hp]; exact hph)⟩, by omega⟩
  ·have hjn : j = b.phis.length := by simp at cj; omega
   subst hjn
   rw [qv] at hjall
   refine y4<|zd<|zSr<|z2 (zFF underlying58 rfl sizeOf52 rfl rfl)<|z2 (zLf isAgg52 rfl)<|z2 (y2 underlying52 rfl)<|z2 (zMi rfl)<|z6<|zi<|y5 (γ := Nat) [1, 4, 16, 17, 18, 47, 48] (fun k => [(49, .int .i64 k)]) (fun k => []) (fun k => k ≤ b.insts.length ∧ (b.insts.take k).all (instT f) = true) (fun k => b.insts.length - k) 0 zR1 zLe (⟨qt _, rfl⟩) ?_
   rintro k ⟨hk, hkall⟩
   refine zSr<|z2 (yb rfl rfl)<|z6<|zd<|zr rfl (fun ck=>?_) (fun ck=>?_)
   ·have hk2 : k < b.insts.length := by simp at ck; omega
    obtain ⟨z, hz⟩ : ∃ z, b.insts[k] = z := ⟨_, rfl⟩
    have hzm : z ∈ b.insts := hz ▸ qu hk2
    have hI := instP_F (hIn z hzm)
    have hzl := hb4 z hzm
    have hwl := wantL_len hI
    have hdst : makesB z.op = true → hasV f z.dst = true := fun h => by
     rcases hI.dst with ⟨d1, _⟩ | ⟨_, _, d3⟩
     ·rw [h] at d1; cases d1
     ·exact d3
    have hcopy : z.op = 1 → makesB z.op = true := fun h => by rw [h]; rfl
    have hib : instT f z = false → f.blocks.all (blkT f) = false := fun h => hbad (by unfold blkT; rw [hjall, show b.insts.all (instT f) = false from Bool.eq_false_iff.2 (all_bad hk2 (by rw [hz]; exact h))]; rfl)
    refine zh<|zd<|zi<|zSr<|z2 (zIM k underlying52 sizeOf61 rfl rfl rfl (by rw [qq hk2, hz])) ?_
    refine z2 (zp isAgg61 sizeOf61 rfl rfl)<|zy (cs := [.int .i64 0, .int .i64 0, .raw (.slice none 0 0), .int .i64 0]) zeroValue61 rfl rfl<|fun i10 => zq sizeOf61 rfl rfl rfl rfl rfl rfl .head rfl<|zc (yk (t := 10) rfl .head)<|z6<|zd<|yp (γ := Nat) [1, 4, 10, 16, 17, 18, 47, 48, 49] (fun g => [(11, .po g 0)]) (fun g => [(g, .cells 170 (encK (kRow z.op)))]) (fun g => True) ?_ (fun _ _ h => h) ?_
    ·refine zu (fun j => false) (by kernel_rfl) rfl (zm (.rest _))<|zTk 1 rfl (zFF underlying61 rfl sizeOf59 rfl rfl)<|zTk 2 rfl (zLi isAgg59 rfl)<|yh (i := 0) (j := 5) rfl rfl (by kernel_rfl) ?_ ?_
     ·refine zf (rows_spec) rfl<|z6<|zTk 3 rfl (zIM z.op.toNat underlying171 sizeOf170 rfl rfl (by have := hI.op; omega) (kRow_get hI.op))<|zTk 4 rfl (zp isAgg170 sizeOf170 rfl rfl)<|zOn 5 rfl<|zy (cs := [.str ⟨#[]⟩, .str ⟨#[]⟩, .str ⟨#[]⟩]) zeroValue170 rfl rfl<|fun i11 => z6<|zOn 6 rfl<|zq sizeOf170 rfl rfl rfl rfl rfl rfl .head rfl<|z6<|zDn ?_
      exact ⟨i11, zR9, zR1, zLe, trivial⟩
     ·refine zy (cs := [.str ⟨#[]⟩, .str ⟨#[]⟩, .str ⟨#[]⟩]) zeroValue170 rfl rfl<|fun i11 => z6<|zOn 0 rfl<|zf (rows_spec) rfl<|z6<|zTk 3 rfl (zIM z.op.toNat underlying171 sizeOf170 rfl rfl (by have := hI.op; omega) (kRow_get hI.op))<|zTk 4 rfl (zp isAgg170 sizeOf170 rfl rfl)<|zOn 6 rfl<|zq sizeOf170 rfl rfl rfl rfl rfl rfl .head rfl<|z6<|zDn ?_
      exact ⟨i11, zR9, zR1, zLe, trivial⟩
    ·rintro i11 _
     refine zd<|zSr<|z2 (zFF underlying61 rfl sizeOf23 rfl rfl)<|z2 (zLf isAgg23 rfl)<|z2 (y2 underlying23 rfl)<|z2 (zMi rfl)<|z6<|zi<|y5 (γ := Nat) [1, 4, 10, 11, 16, 17, 18, 47, 48, 49, 60] (fun m => [(61, .int .i64 m)]) (fun m => [(i11, .cells 170 (encK (kRow z.op)))]) (fun m => m ≤ z.args.length ∧ (z.args.take m).map (kindV f) = (wantL f z).take m) (fun m => z.args.length - m) 0 zR1 zLe (⟨qt _, by simp⟩) ?_
     rintro m ⟨hm, hmall⟩
     refine zSr<|z2 (yb rfl rfl)<|z6<|zd<|zr rfl (fun cm=>?_) (fun cm=>?_)
     ·have hm2 : m < z.args.length := by simp at cm; omega
      have hmw : m < (wantL f z).length := by omega
      have hmt : m < (takesL z.op).length := by have := hI.len; omega
      obtain ⟨v, hv⟩ : ∃ v, z.args[m] = v := ⟨_, rfl⟩
      have hvv := hI.args v (hv ▸ qu hm2)
      obtain ⟨c, hc, hct⟩ := takes_byte hmt
      have hbadm : ¬ kindV f v = (wantL f z)[m] → f.blocks.all (blkT f) = false := fun h => hib (by rw [instT_want hI, w4 (map_ne hm2 hmw (by rw [hv]; exact h))]; rfl)
      refine zh<|zd<|zi<|zSr<|z2 (zMi rfl)<|z2 (zAi rfl)<|z6<|zSr<|z2 (ze underlying170 rfl sizeOf9 (by decide) rfl rfl)<|z2 (zl (c := .str _) isAgg9 rfl ⟨_, .head⟩ rfl)<|z2 (zMi rfl)<|z2 (Gv.indexT (j := m) underlying9 rfl rfl rfl hc)<|zf (rtype_spec (c.toNat : Int)) rfl<|z2 (zAi rfl)<|z6<|zd<|zSr<|z2 (ze underlying170 rfl sizeOf9 (by decide) rfl rfl)<|z2 (zl (c := .str _) isAgg9 rfl ⟨_, .head⟩ rfl)<|z2 (yy rfl rfl)<|z6<|zz rfl (fun cw=>?_) (fun cw=>?_)
      ·have ew : z.op = 1 := (copy_op hI.op).1 (by simpa using cw)
       refine zRg<|z2 (zp isAgg26 sizeOf26 rfl rfl)<|z2 (zFF underlying61 rfl sizeOf3 rfl rfl)<|z2 (zLi isAgg3 rfl)<|zf (rof_spec f z.dst (hdst (hcopy ew))) rfl<|z2 (zAi rfl)<|z6<|zd<|zu (fun j => false) (by kernel_rfl) rfl (zm (.rest _))<|zTk 0 rfl (zp isAgg26 sizeOf26 rfl rfl)<|zTk 1 rfl (zFF underlying61 rfl sizeOf23 rfl rfl)<|zTk 2 rfl (zLf isAgg23 rfl)<|zTk 3 rfl (zMi rfl)<|zTk 4 rfl (zIM m underlying23 sizeOf3 rfl rfl rfl (by rw [qq hm2, hv])) ?_
       refine zTk 5 rfl (zLi isAgg3 rfl)<|zTk 7 rfl (zMi rfl)<|zOn 6 rfl<|zf (rof_spec f v hvv) rfl<|z6<|zTk 8 rfl (yj rfl rfl)<|zDn<|zz rfl (fun cq=>?_) (fun cq=>?_)
       ·have hq : ¬ kindV f v = kindV f z.dst := by simpa using cq
        refine zSr<|z2 (zAb rfl)<|z6<|zg<|zk (x := .bool _) rfl ?_
        rw [hbadm (by rw [want_1 ew hmw]; exact hq)]
       ·have hq : kindV f v = kindV f z.dst := by simpa using cq
        refine zh<|zRg<|z2 (zAd rfl rfl)<|z2 (zMi rfl)<|z6 ?_
        exact ⟨m + 1, zR11, zR1, zLe, ⟨hm2, map_take_succ hm2 hmw hmall (by rw [hv, want_1 ew hmw]; exact hq)⟩, by omega⟩
      ·have ew : ¬ z.op = 1 := fun e => by have := (copy_op hI.op).2 e; simp [this] at cw
       refine zh<|zd<|zu (fun j => false) (by kernel_rfl) rfl (zm (.rest _))<|zTk 0 rfl (zp isAgg26 sizeOf26 rfl rfl)<|zTk 1 rfl (zFF underlying61 rfl sizeOf23 rfl rfl)<|zTk 2 rfl (zLf isAgg23 rfl)<|zTk 3 rfl (zMi rfl)<|zTk 4 rfl (zIM m underlying23 sizeOf3 rfl rfl rfl (by rw [qq hm2, hv])) ?_
       refine zTk 5 rfl (zLi isAgg3 rfl)<|zTk 7 rfl (zMi rfl)<|zOn 6 rfl<|zf (rof_spec f v hvv) rfl<|z6<|zTk 8 rfl (yj rfl rfl)<|zDn<|zz rfl (fun cq=>?_) (fun cq=>?_)
       ·have hq : ¬ kindV f v = typeOf (c.toNat : Int) := by simpa using cq
        refine zSr<|z2 (zAb rfl)<|z6<|zg<|zk (x := .bool _) rfl ?_
        rw [hbadm (by rw [want_2 ew hmw hmt, hct]; exact hq)]
       ·have hq : kindV f v = typeOf (c.toNat : Int) := by simpa using cq
        refine zh<|zRg<|z2 (zAd rfl rfl)<|z2 (zMi rfl)<|z6 ?_
        exact ⟨m + 1, zR11, zR1, zLe, ⟨hm2, map_take_succ hm2 hmw hmall (by rw [hv, want_2 ew hmw hmt, hct]; exact hq)⟩, by omega⟩
     ·have hmn : m = z.args.length := by simp at cm; omega
      have hall2 : z.args.map (kindV f) = wantL f z := by rw [hmn, qv, hwl, qv] at hmall; exact hmall
      have hiw := instT_want hI
      rw [w3 hall2, Bool.true_and] at hiw
      refine y4<|zd<|zu (fun j => false) (by kernel_rfl) rfl (zm (.r (.rest _)))<|zTk 0 rfl (ze underlying170 rfl sizeOf9 (by decide) rfl rfl)<|zTk 1 rfl (zl (c := .str _) isAgg9 rfl ⟨_, .head⟩ rfl)<|zTk 2 rfl (Gv.neqT rfl rfl)<|zTk 3 rfl (zMb rfl)<|qh (s := 89) rfl (fun c1=>?_) (fun c1=>?_)
      ·have d1 : ¬ (kRow z.op).2.2 = ⟨#[]⟩ := by simpa using c1
       have dm : makesB z.op = true := by rw [makesB_eq, w4 d1]; rfl
       obtain ⟨c, hc, hct⟩ := makes_byte d1
       refine zTt 4 rfl rfl rfl c1 (ze underlying170 rfl sizeOf9 (by decide) rfl rfl)<|zTt 5 rfl rfl rfl c1 (zl (c := .str _) isAgg9 rfl ⟨_, .head⟩ rfl)<|zTt 6 rfl rfl rfl c1 (Gv.neqT rfl rfl)<|zTk 7 rfl (zPt rfl c1 rfl)<|zTk 8 rfl (zMb rfl)<|qh (s := 94) rfl (fun c2=>?_) (fun c2=>?_)
       ·have ew : ¬ z.op = 1 := fun e => by have := (copy_op hI.op).2 e; simp [this] at c2
        refine zTt 9 rfl rfl rfl c2 (zp isAgg26 sizeOf26 rfl rfl)<|zTt 10 rfl rfl rfl c2 (zFF underlying61 rfl sizeOf3 rfl rfl)<|zTt 11 rfl rfl rfl c2 (zLi isAgg3 rfl)<|zTt 13 rfl rfl rfl c2 (ze underlying170 rfl sizeOf9 (by decide) rfl rfl)<|zTt 14 rfl rfl rfl c2 (zl (c := .str _) isAgg9 rfl ⟨_, .head⟩ rfl)<|zTt 15 rfl rfl rfl c2 (Gv.indexT (j := 0) underlying9 rfl rfl rfl hc)<|zOn 12 rfl<|z8 rfl rfl c2<|zf (rof_spec f z.dst (hdst dm)) rfl<|z6<|zOn 16 rfl<|z8 rfl rfl c2<|zf (rtype_spec (c.toNat : Int)) rfl<|z6<|zTt 17 rfl rfl rfl c2 (yj rfl rfl)<|zTk 18 rfl (zPt rfl c2 rfl)<|zDn<|zz rfl (fun cq=>?_) (fun cq=>?_)
        ·have hq : ¬ kindV f z.dst = typeOf (c.toNat : Int) := by simpa using cq
         refine zSr<|z2 (zAb rfl)<|z6<|zg<|zk (x := .bool _) rfl ?_
         rw [hib (by rw [hiw, dm, w4 ew, hct, w4 hq]; rfl)]
        ·have hq : kindV f z.dst = typeOf (c.toNat : Int) := by simpa using cq
         refine zh<|zRg<|z2 (zAd rfl rfl)<|z2 (zMi rfl)<|z6 ?_
         exact ⟨k + 1, zR7, zR1, ⟨_, (.drop (.refl _)), rfl⟩, ⟨hk2, all_take hk2 hkall (by rw [hz, hiw, hct, w3 hq]; simp)⟩, by omega⟩
       ·have ew : z.op = 1 := (copy_op hI.op).1 (by simpa using c2)
        refine zTf 9 rfl rfl rfl c2<|zTf 10 rfl rfl rfl c2<|zTf 11 rfl rfl rfl c2<|zTf 12 rfl rfl rfl c2<|zTf 13 rfl rfl rfl c2<|zTf 14 rfl rfl rfl c2<|zTf 15 rfl rfl rfl c2<|zTf 16 rfl rfl rfl c2<|zTf 17 rfl rfl rfl c2<|zTk 18 rfl (zPf rfl c2 rfl)<|zDn<|ym rfl rfl<|zh<|zRg<|z2 (zAd rfl rfl)<|z2 (zMi rfl)<|z6 ?_
        exact ⟨k + 1, zR7, zR1, ⟨_, (.drop (.refl _)), rfl⟩, ⟨hk2, all_take hk2 hkall (by rw [hz, hiw, w3 ew]; simp)⟩, by omega⟩
      ·have d1 : (kRow z.op).2.2 = ⟨#[]⟩ := by simpa using c1
       have dm : makesB z.op = false := by rw [makesB_eq, w3 d1]; rfl
       refine zTf 4 rfl rfl rfl c1<|zTf 5 rfl rfl rfl c1<|zTf 6 rfl rfl rfl c1<|zTk 7 rfl (zPf rfl c1 rfl)<|zTk 8 rfl (zMb rfl)<|zTf 9 rfl rfl rfl rfl<|zTf 10 rfl rfl rfl rfl<|zTf 11 rfl rfl rfl rfl<|zTf 12 rfl rfl rfl rfl<|zTf 13 rfl rfl rfl rfl<|zTf 14 rfl rfl rfl rfl<|zTf 15 rfl rfl rfl rfl<|zTf 16 rfl rfl rfl rfl<|zTf 17 rfl rfl rfl rfl<|zTk 18 rfl (zPf rfl rfl rfl)<|zDn<|ym rfl rfl<|zh<|zRg<|z2 (zAd rfl rfl)<|z2 (zMi rfl)<|z6 ?_
       exact ⟨k + 1, zR7, zR1, ⟨_, (.drop (.refl _)), rfl⟩, ⟨hk2, all_take hk2 hkall (by rw [hz, hiw, dm]; rfl)⟩, by omega⟩
   ·have hkn : k = b.insts.length := by simp at ck; omega
    rw [hkn, qv] at hkall
    refine y4<|zSr<|z2 (zFF underlying58 rfl sizeOf56 rfl rfl)<|z2 (zp isAgg56 sizeOf56 rfl rfl)<|zy (cs := [.int .i64 0, .int .i64 0, .int .i64 0, .int .i64 0]) zeroValue56 rfl rfl<|fun i14 => zq sizeOf56 rfl rfl rfl rfl rfl rfl .head rfl<|zc (yk (t := 14) rfl .head)<|z6<|zd<|yp (γ := Bool) [1, 16, 17, 18] (fun u => [(152, .bool u)]) (fun u => []) (fun u => u = !termT f b.term) ?_ (fun _ _ h => h) ?_
    ·have hk3 := term_kind hTm
     refine zRg<|z2 (zFF underlying56 rfl sizeOf53 rfl rfl)<|z2 (zLi isAgg53 rfl)<|z2 (y7 rfl rfl)<|z2 (zMb rfl)<|zt (s := 111) rfl (fun c1=>?_) (fun c1=>?_)
     ·refine z8 rfl rfl c1<|z2 (zp isAgg26 sizeOf26 rfl rfl)<|z8 rfl rfl c1<|z2 (zFF underlying56 rfl sizeOf3 rfl rfl)<|z8 rfl rfl c1<|z2 (zLi isAgg3 rfl)<|z8 rfl rfl c1<|zf (rof_spec f b.term.var (term_var hTm (by simp_all))) rfl<|z8 rfl rfl c1<|z2 (yj rfl rfl)<|z2 (zPt rfl c1 rfl)<|z2 (zMb rfl)<|zt (s := 118) rfl (fun c2=>?_) (fun c2=>?_)
      ·refine z7 rfl rfl c2<|z7 rfl rfl c2<|z7 rfl rfl c2<|z7 rfl rfl c2<|zj rfl rfl<|zj rfl rfl<|zj rfl rfl<|zj rfl rfl<|zj rfl rfl<|zj rfl rfl<|zj rfl rfl<|zj rfl rfl<|zj rfl rfl<|zj rfl rfl<|zj rfl rfl<|zj rfl rfl<|zj rfl rfl<|zj rfl rfl<|zj rfl rfl<|zj rfl rfl<|zj rfl rfl<|z7 rfl rfl c2<|z2 (zPt rfl c2 rfl)<|z2 (zMb rfl)<|z7 rfl rfl rfl<|z7 rfl rfl rfl<|z7 rfl rfl rfl<|z7 rfl rfl rfl<|zj rfl rfl<|zj rfl rfl<|zj rfl rfl<|zj rfl rfl<|z7 rfl rfl rfl<|z2 (zPt rfl rfl rfl)<|z6 ?_
       exact ⟨_, zR4, zR1, zLe, by simp_all [termT] <;> omega⟩
      ·refine z8 rfl rfl c2<|z2 (zFF underlying56 rfl sizeOf53 rfl rfl)<|z8 rfl rfl c2<|z2 (zLi isAgg53 rfl)<|z8 rfl rfl c2<|z2 (y7 rfl rfl)<|z8 rfl rfl c2<|z2 (zMb rfl)<|zt (s := 122) rfl (fun c3=>?_) (fun c3=>?_)
       ·refine z8 rfl rfl c3<|z2 (zp isAgg26 sizeOf26 rfl rfl)<|z8 rfl rfl c3<|z2 (zFF underlying56 rfl sizeOf3 rfl rfl)<|z8 rfl rfl c3<|z2 (zLi isAgg3 rfl)<|z8 rfl rfl c3<|zf (rof_spec f b.term.var (term_var hTm (by simp_all))) rfl<|z8 rfl rfl c3<|z2 (yj rfl rfl)<|z8 rfl rfl c3<|z2 (zMb rfl)<|zt (s := 128) rfl (fun c4=>?_) (fun c4=>?_)
        ·refine z7 rfl rfl c4<|z7 rfl rfl c4<|z7 rfl rfl c4<|z7 rfl rfl c4<|z8 rfl rfl c3<|z2 (zPt rfl c4 rfl)<|z8 rfl rfl c3<|z2 (zMb rfl)<|z7 rfl rfl rfl<|z7 rfl rfl rfl<|z7 rfl rfl rfl<|z7 rfl rfl rfl<|z8 rfl rfl c3<|z2 (zPt rfl rfl rfl)<|z8 rfl rfl c2<|z2 (zPt rfl c3 rfl)<|z2 (zPf rfl c2 rfl)<|z2 (zMb rfl)<|z7 rfl rfl rfl<|z7 rfl rfl rfl<|z7 rfl rfl rfl<|z7 rfl rfl rfl<|zj rfl rfl<|zj rfl rfl<|zj rfl rfl<|zj rfl rfl<|z7 rfl rfl rfl<|z2 (zPt rfl rfl rfl)<|z6 ?_
         exact ⟨_, zR4, zR1, zLe, by simp_all [termT] <;> omega⟩
        ·refine z8 rfl rfl c4<|z2 (zFF underlying56 rfl sizeOf54 rfl rfl)<|z8 rfl rfl c4<|z2 (q3 (j := 0) underlying54 sizeOf3 rfl rfl rfl (by decide) rfl)<|z8 rfl rfl c4<|z2 (zLi isAgg3 rfl)<|z8 rfl rfl c4<|z2 (y7 rfl rfl)<|z8 rfl rfl c3<|z2 (zPf rfl c4 rfl)<|z8 rfl rfl c3<|z2 (zMb rfl)<|zt (s := 134) rfl (fun c5=>?_) (fun c5=>?_)
         ·refine z7 rfl rfl c5<|z7 rfl rfl c5<|z7 rfl rfl c5<|z7 rfl rfl c5<|z8 rfl rfl c3<|z2 (zPt rfl c5 rfl)<|z8 rfl rfl c2<|z2 (zPt rfl c3 rfl)<|z2 (zPf rfl c2 rfl)<|z2 (zMb rfl)<|z7 rfl rfl rfl<|z7 rfl rfl rfl<|z7 rfl rfl rfl<|z7 rfl rfl rfl<|zj rfl rfl<|zj rfl rfl<|zj rfl rfl<|zj rfl rfl<|z7 rfl rfl rfl<|z2 (zPt rfl rfl rfl)<|z6 ?_
          exact ⟨_, zR4, zR1, zLe, by simp_all [termT] <;> omega⟩
         ·refine z8 rfl rfl c5<|z2 (zFF underlying56 rfl sizeOf54 rfl rfl)<|z8 rfl rfl c5<|z2 (q3 (j := 1) underlying54 sizeOf3 rfl rfl rfl (by decide) rfl)<|z8 rfl rfl c5<|z2 (zLi isAgg3 rfl)<|z8 rfl rfl c5<|z2 (y7 rfl rfl)<|z8 rfl rfl c3<|z2 (zPf rfl c5 rfl)<|z8 rfl rfl c2<|z2 (zPt rfl c3 rfl)<|z2 (zPf rfl c2 rfl)<|z2 (zMb rfl)<|zt (s := 142) rfl (fun c6=>?_) (fun c6=>?_)
          ·refine z7 rfl rfl c6<|z7 rfl rfl c6<|z7 rfl rfl c6<|z7 rfl rfl c6<|zj rfl rfl<|zj rfl rfl<|zj rfl rfl<|zj rfl rfl<|z7 rfl rfl c6<|z2 (zPt rfl c6 rfl)<|z6 ?_
           exact ⟨_, zR4, zR1, zLe, by simp_all [termT] <;> omega⟩
          ·refine z8 rfl rfl c6<|z2 (zFF underlying56 rfl sizeOf53 rfl rfl)<|z8 rfl rfl c6<|z2 (zLi isAgg53 rfl)<|z8 rfl rfl c6<|z2 (y7 rfl rfl)<|z8 rfl rfl c6<|z2 (zMb rfl)<|zt (s := 146) rfl (fun c7=>?_) (fun c7=>?_)
           ·refine z8 rfl rfl c7<|z2 (zFF underlying56 rfl sizeOf54 rfl rfl)<|z8 rfl rfl c7<|z2 (q3 (j := 0) underlying54 sizeOf3 rfl rfl rfl (by decide) rfl)<|z8 rfl rfl c7<|z2 (zLi isAgg3 rfl)<|z8 rfl rfl c7<|z2 (y7 rfl rfl)<|z8 rfl rfl c6<|z2 (zPt rfl c7 rfl)<|z2 (zPf rfl c6 rfl)<|z6 ?_
            exact ⟨_, zR4, zR1, zLe, by simp_all [termT] <;> omega⟩
           ·refine z7 rfl rfl c7<|z7 rfl rfl c7<|z7 rfl rfl c7<|z7 rfl rfl c7<|z8 rfl rfl c6<|z2 (zPf rfl c7 rfl)<|z2 (zPf rfl c6 rfl)<|z6 ?_
            exact ⟨_, zR4, zR1, zLe, by simp_all [termT] <;> omega⟩
       ·refine z7 rfl rfl c3<|z7 rfl rfl c3<|z7 rfl rfl c3<|z7 rfl rfl c3<|z7 rfl rfl c3<|z7 rfl rfl c3<|zj rfl rfl<|zj rfl rfl<|zj rfl rfl<|zj rfl rfl<|z7 rfl rfl c3<|z7 rfl rfl c3<|zj rfl rfl<|zj rfl rfl<|zj rfl rfl<|zj rfl rfl<|z7 rfl rfl c3<|z8 rfl rfl c2<|z2 (zPf rfl c3 rfl)<|z2 (zPf rfl c2 rfl)<|z2 (zMb rfl)<|z8 rfl rfl rfl<|z2 (zFF underlying56 rfl sizeOf53 rfl rfl)<|z8 rfl rfl rfl<|z2 (zLi isAgg53 rfl)<|z8 rfl rfl rfl<|z2 (y7 rfl rfl)<|z8 rfl rfl rfl<|z2 (zMb rfl)<|zt (s := 146) rfl (fun c8=>?_) (fun c8=>?_)
        ·refine z8 rfl rfl c8<|z2 (zFF underlying56 rfl sizeOf54 rfl rfl)<|z8 rfl rfl c8<|z2 (q3 (j := 0) underlying54 sizeOf3 rfl rfl rfl (by decide) rfl)<|z8 rfl rfl c8<|z2 (zLi isAgg3 rfl)<|z8 rfl rfl c8<|z2 (y7 rfl rfl)<|z8 rfl rfl rfl<|z2 (zPt rfl c8 rfl)<|z2 (zPf rfl rfl rfl)<|z6 ?_
         exact ⟨_, zR4, zR1, zLe, by simp_all [termT] <;> omega⟩
        ·refine z7 rfl rfl c8<|z7 rfl rfl c8<|z7 rfl rfl c8<|z7 rfl rfl c8<|z8 rfl rfl rfl<|z2 (zPf rfl c8 rfl)<|z2 (zPf rfl rfl rfl)<|z6 ?_
         exact ⟨_, zR4, zR1, zLe, by simp_all [termT] <;> omega⟩
     ·refine z7 rfl rfl c1<|z7 rfl rfl c1<|z7 rfl rfl c1<|z7 rfl rfl c1<|z7 rfl rfl c1<|z2 (zPf rfl c1 rfl)<|z2 (zMb rfl)<|z8 rfl rfl rfl<|z2 (zFF underlying56 rfl sizeOf53 rfl rfl)<|z8 rfl rfl rfl<|z2 (zLi isAgg53 rfl)<|z8 rfl rfl rfl<|z2 (y7 rfl rfl)<|z8 rfl rfl rfl<|z2 (zMb rfl)<|zt (s := 122) rfl (fun c9=>?_) (fun c9=>?_)
      ·refine z8 rfl rfl c9<|z2 (zp isAgg26 sizeOf26 rfl rfl)<|z8 rfl rfl c9<|z2 (zFF underlying56 rfl sizeOf3 rfl rfl)<|z8 rfl rfl c9<|z2 (zLi isAgg3 rfl)<|z8 rfl rfl c9<|zf (rof_spec f b.term.var (term_var hTm (by simp_all))) rfl<|z8 rfl rfl c9<|z2 (yj rfl rfl)<|z8 rfl rfl c9<|z2 (zMb rfl)<|zt (s := 128) rfl (fun c10=>?_) (fun c10=>?_)
       ·refine z7 rfl rfl c10<|z7 rfl rfl c10<|z7 rfl rfl c10<|z7 rfl rfl c10<|z8 rfl rfl c9<|z2 (zPt rfl c10 rfl)<|z8 rfl rfl c9<|z2 (zMb rfl)<|z7 rfl rfl rfl<|z7 rfl rfl rfl<|z7 rfl rfl rfl<|z7 rfl rfl rfl<|z8 rfl rfl c9<|z2 (zPt rfl rfl rfl)<|z8 rfl rfl rfl<|z2 (zPt rfl c9 rfl)<|z2 (zPf rfl rfl rfl)<|z2 (zMb rfl)<|z7 rfl rfl rfl<|z7 rfl rfl rfl<|z7 rfl rfl rfl<|z7 rfl rfl rfl<|zj rfl rfl<|zj rfl rfl<|zj rfl rfl<|zj rfl rfl<|z7 rfl rfl rfl<|z2 (zPt rfl rfl rfl)<|z6 ?_
        exact ⟨_, zR4, zR1, zLe, by simp_all [termT] <;> omega⟩
       ·refine z8 rfl rfl c10<|z2 (zFF underlying56 rfl sizeOf54 rfl rfl)<|z8 rfl rfl c10<|z2 (q3 (j := 0) underlying54 sizeOf3 rfl rfl rfl (by decide) rfl)<|z8 rfl rfl c10<|z2 (zLi isAgg3 rfl)<|z8 rfl rfl c10<|z2 (y7 rfl rfl)<|z8 rfl rfl c9<|z2 (zPf rfl c10 rfl)<|z8 rfl rfl c9<|z2 (zMb rfl)<|zt (s := 134) rfl (fun c11=>?_) (fun c11=>?_)
        ·refine z7 rfl rfl c11<|z7 rfl rfl c11<|z7 rfl rfl c11<|z7 rfl rfl c11<|z8 rfl rfl c9<|z2 (zPt rfl c11 rfl)<|z8 rfl rfl rfl<|z2 (zPt rfl c9 rfl)<|z2 (zPf rfl rfl rfl)<|z2 (zMb rfl)<|z7 rfl rfl rfl<|z7 rfl rfl rfl<|z7 rfl rfl rfl<|z7 rfl rfl rfl<|zj rfl rfl<|zj rfl rfl<|zj rfl rfl<|zj rfl rfl<|z7 rfl rfl rfl<|z2 (zPt rfl rfl rfl)<|z6 ?_
         exact ⟨_, zR4, zR1, zLe, by simp_all [termT] <;> omega⟩
        ·refine z8 rfl rfl c11<|z2 (zFF underlying56 rfl sizeOf54 rfl rfl)<|z8 rfl rfl c11<|z2 (q3 (j := 1) underlying54 sizeOf3 rfl rfl rfl (by decide) rfl)<|z8 rfl rfl c11<|z2 (zLi isAgg3 rfl)<|z8 rfl rfl c11<|z2 (y7 rfl rfl)<|z8 rfl rfl c9<|z2 (zPf rfl c11 rfl)<|z8 rfl rfl rfl<|z2 (zPt rfl c9 rfl)<|z2 (zPf rfl rfl rfl)<|z2 (zMb rfl)<|zt (s := 142) rfl (fun c12=>?_) (fun c12=>?_)
         ·refine z7 rfl rfl c12<|z7 rfl rfl c12<|z7 rfl rfl c12<|z7 rfl rfl c12<|zj rfl rfl<|zj rfl rfl<|zj rfl rfl<|zj rfl rfl<|z7 rfl rfl c12<|z2 (zPt rfl c12 rfl)<|z6 ?_
          exact ⟨_, zR4, zR1, zLe, by simp_all [termT] <;> omega⟩
         ·refine z8 rfl rfl c12<|z2 (zFF underlying56 rfl sizeOf53 rfl rfl)<|z8 rfl rfl c12<|z2 (zLi isAgg53 rfl)<|z8 rfl rfl c12<|z2 (y7 rfl rfl)<|z8 rfl rfl c12<|z2 (zMb rfl)<|zt (s := 146) rfl (fun c13=>?_) (fun c13=>?_)
          ·refine z8 rfl rfl c13<|z2 (zFF underlying56 rfl sizeOf54 rfl rfl)<|z8 rfl rfl c13<|z2 (q3 (j := 0) underlying54 sizeOf3 rfl rfl rfl (by decide) rfl)<|z8 rfl rfl c13<|z2 (zLi isAgg3 rfl)<|z8 rfl rfl c13<|z2 (y7 rfl rfl)<|z8 rfl rfl c12<|z2 (zPt rfl c13 rfl)<|z2 (zPf rfl c12 rfl)<|z6 ?_
           exact ⟨_, zR4, zR1, zLe, by simp_all [termT] <;> omega⟩
          ·refine z7 rfl rfl c13<|z7 rfl rfl c13<|z7 rfl rfl c13<|z7 rfl rfl c13<|z8 rfl rfl c12<|z2 (zPf rfl c13 rfl)<|z2 (zPf rfl c12 rfl)<|z6 ?_
           exact ⟨_, zR4, zR1, zLe, by simp_all [termT] <;> omega⟩
      ·refine z7 rfl rfl c9<|z7 rfl rfl c9<|z7 rfl rfl c9<|z7 rfl rfl c9<|z7 rfl rfl c9<|z7 rfl rfl c9<|zj rfl rfl<|zj rfl rfl<|zj rfl rfl<|zj rfl rfl<|z7 rfl rfl c9<|z7 rfl rfl c9<|zj rfl rfl<|zj rfl rfl<|zj rfl rfl<|zj rfl rfl<|z7 rfl rfl c9<|z8 rfl rfl rfl<|z2 (zPf rfl c9 rfl)<|z2 (zPf rfl rfl rfl)<|z2 (zMb rfl)<|z8 rfl rfl rfl<|z2 (zFF underlying56 rfl sizeOf53 rfl rfl)<|z8 rfl rfl rfl<|z2 (zLi isAgg53 rfl)<|z8 rfl rfl rfl<|z2 (y7 rfl rfl)<|z8 rfl rfl rfl<|z2 (zMb rfl)<|zt (s := 146) rfl (fun c14=>?_) (fun c14=>?_)
       ·refine z8 rfl rfl c14<|z2 (zFF underlying56 rfl sizeOf54 rfl rfl)<|z8 rfl rfl c14<|z2 (q3 (j := 0) underlying54 sizeOf3 rfl rfl rfl (by decide) rfl)<|z8 rfl rfl c14<|z2 (zLi isAgg3 rfl)<|z8 rfl rfl c14<|z2 (y7 rfl rfl)<|z8 rfl rfl rfl<|z2 (zPt rfl c14 rfl)<|z2 (zPf rfl rfl rfl)<|z6 ?_
        exact ⟨_, zR4, zR1, zLe, by simp_all [termT] <;> omega⟩
       ·refine z7 rfl rfl c14<|z7 rfl rfl c14<|z7 rfl rfl c14<|z7 rfl rfl c14<|z8 rfl rfl rfl<|z2 (zPf rfl c14 rfl)<|z2 (zPf rfl rfl rfl)<|z6 ?_
        exact ⟨_, zR4, zR1, zLe, by simp_all [termT] <;> omega⟩
    ·rintro u hu
     subst hu
     refine zz rfl (fun ct=>?_) (fun ct=>?_)
     ·have dt : termT f b.term = false := by simpa using ct
      refine zSr<|z2 (zAb rfl)<|z6<|zg<|zk (x := .bool _) rfl ?_
      rw [hbad (by unfold blkT; rw [hjall, hkall, dt]; rfl)]
     ·have dt : termT f b.term = true := by simpa using ct
      refine zh<|zRg<|z2 (zAd rfl rfl)<|z2 (zMi rfl)<|z6 ?_
      exact ⟨i + 1, zR3, zR1, zLe, ⟨hi2, all_take hi2 hall (by rw [hbi]; unfold blkT; rw [hjall, hkall, dt]; rfl)⟩, by omega⟩
 ·have hin : i = f.blocks.length := by simp at ci; omega
  rw [hin, qv] at hall
  refine y4<|zSr<|z2 (zAb rfl)<|z6<|zg<|zk (x := .bool _) rfl ?_
  rw [hall]
end Go.Proofs.YtiojekbkamegdaaGreatDoor
namespace Go.Proofs.YtiojekbkamegdaaGreatDoor
open Go.Proofs.Tryz
open Go.Proofs Go.Lib Go.Shelf Go.RowKit
set_option maxRecDepth 20000
variable {E : World}
theorem lawShaped2_spec (f : PFunc) (hf : okFunc f) (hn : okNames f) (hL : Letters E) : AFun prog E 49 [.agg (encF f)] (.bool (decide (ShapedP f))) := by
 refine zo func49 rfl (by decide) rfl<|zSr<|y9 (cs := _) rfl rfl rfl<|z2 (zAb rfl)<|z6<|zSr<|z2 (zp isAgg26 sizeOf26 rfl rfl)<|zf (refShaped_spec _ (by assumption) (by assumption) hL) rfl<|z2 (zAb rfl)<|z6<|zg<|zk (x := .bool _) rfl ?_
 rfl
theorem lawTyped8_spec (f : PFunc) (hf : small f) (hL : Letters E) : AFun prog E 18 [.agg (encF f)] (.bool (typedB f)) := by
 have hs := lawShaped2_spec (E := E) f hf.ok hf.names hL
 refine zo func18 rfl (by decide) rfl<|zSr<|y9 (cs := _) rfl rfl rfl<|z2 (zAb rfl)<|z6<|zSr<|z2 (zp isAgg26 sizeOf26 rfl rfl)<|zf (hs) rfl ?_
 by_cases g4 : ShapedP f
 ·refine z2 (zMb rfl)<|z8 rfl rfl (w3 g4)<|z2 (zp isAgg26 sizeOf26 rfl rfl)<|z8 rfl rfl (w3 g4)<|zf (refTyped_spec f hf g4) rfl<|z2 (zPt rfl (w3 g4) rfl)<|z2 (zAb rfl)<|z6<|zg<|zk (x := .bool _) rfl ?_
  exact jb (by unfold typedB; rw [shapedB_eq, w3 g4]; rfl)
 ·refine z2 (zMb rfl)<|z7 rfl rfl (w4 g4)<|z7 rfl rfl (w4 g4)<|z2 (zPf rfl (w4 g4) rfl)<|z2 (zAb rfl)<|z6<|zg<|zk (x := .bool _) rfl ?_
  exact jb (by unfold typedB; rw [shapedB_eq, w4 g4]; rfl)
theorem and3 {a b : Bool} (h : (a && b) = true) : a = true ∧ b = true := by simpa using h
end Go.Proofs.YtiojekbkamegdaaGreatDoor
namespace Go.Proofs.YtiojekbkamegdaaGreatDoor
open Go.Proofs.Tryz
abbrev Rng := Int × Int
def is64 (x : Int) : Prop := -9223372036854775808 ≤ x ∧ x ≤ 9223372036854775807
instance (x : Int) : Decidable (is64 x) := by unfold is64; infer_instance
def ok64 (r : Rng) : Prop := is64 r.1 ∧ is64 r.2
def noR : Rng := (1, 0)
def rMade (lo hi : Int) : Rng := if hi < lo then noR else (lo, hi)
def imin (a b : Int) : Int := if b < a then b else a
def imax (a b : Int) : Int := if a < b then b else a
def rJoin (a b : Rng) : Rng := if a.2 < a.1 then rMade b.1 b.2 else if b.2 < b.1 then a else (imin a.1 b.1, imax a.2 b.2)
def op3 (k : Nat) (x y : Int) : Int := if k = 0 then x + y else if k = 1 then x - y else x * y
def fit3 (k : Nat) (x y : Int) : Prop := is64 (op3 k x y)
instance (k : Nat) (x y : Int) : Decidable (fit3 k x y) := by unfold fit3; infer_instance
def rOf (n : Int) : Rng := (n, n)
def cornF (k : Nat) (a b : Rng) : Prop := fit3 k a.1 b.1 ∧ fit3 k a.1 b.2 ∧ fit3 k a.2 b.1 ∧ fit3 k a.2 b.2
instance (k : Nat) (a b : Rng) : Decidable (cornF k a b) := by unfold cornF; infer_instance
theorem mul_fit {x y : Nat} (hy : 0 < y) (l : Nat) : x ≤ l / y ↔ x * y ≤ l := Nat.le_div_iff_mul_le hy
theorem natAbs_mul_le (a b : Int) (l : Nat) : a.natAbs ≤ l / b.natAbs ↔ (b = 0 ∧ a = 0) ∨ (b ≠ 0 ∧ (a * b).natAbs ≤ l) := by
 by_cases hb : b = 0
 ·subst hb; simp
 ·rw [mul_fit (by omega), Int.natAbs_mul]; simp [hb]
theorem sign_mul {a b : Int} (ha : a ≠ 0) (hb : b ≠ 0) : (0 < a * b ↔ ((a < 0) ↔ (b < 0))) ∧ a * b ≠ 0 := by
 refine ⟨?_, Int.mul_ne_zero ha hb⟩
 rcases Int.lt_or_gt_of_ne ha with h1 | h1 <;> rcases Int.lt_or_gt_of_ne hb with h2 | h2
 ·have := Int.mul_pos_of_neg_of_neg h1 h2; simp [this, h1, h2]
 ·have := Int.mul_neg_of_neg_of_pos h1 h2
  constructor
  ·intro h; omega
  ·intro h; have := h.1 h1; omega
 ·have := Int.mul_neg_of_pos_of_neg h1 h2
  constructor
  ·intro h; omega
  ·intro h; have := h.2 h2; omega
 ·have := Int.mul_pos h1 h2
  constructor
  ·intro _; constructor <;> intro h <;> omega
  ·intro _; exact this
theorem fitMul (a b : Int) (ha : a ≠ 0) (hb : b ≠ 0) : (a.natAbs ≤ (if decide (a < 0) = decide (b < 0) then 9223372036854775807 else 9223372036854775808) / b.natAbs) ↔ fit3 2 a b := by
 have hs := sign_mul ha hb
 rw [natAbs_mul_le]
 unfold fit3 is64
 have e : op3 2 a b = a * b := rfl
 rw [e]
 simp only [hb, false_and, false_or, ne_eq, not_false_eq_true, true_and]
 by_cases h : decide (a < 0) = decide (b < 0)
 ·rw [if_pos h]
  have : (a < 0) ↔ (b < 0) := by simpa using h
  have h1 := hs.1.2 this
  omega
 ·rw [if_neg h]
  have : ¬ ((a < 0) ↔ (b < 0)) := by simpa using h
  have h1 : ¬ 0 < a * b := fun h2 => this (hs.1.1 h2)
  omega
end Go.Proofs.YtiojekbkamegdaaGreatDoor
namespace Go.Proofs.YtiojekbkamegdaaGreatDoor
open Go.Proofs.Tryz
def rSub (r s : Rng) : Prop := r.2 < r.1 ∨ (s.1 ≤ r.1 ∧ r.2 ≤ s.2)
theorem rSub.refl (r : Rng) : rSub r r := .inr ⟨Int.le_refl _, Int.le_refl _⟩
theorem rSub.trans {r s t : Rng} (h : rSub r s) (k : rSub s t) : rSub r t := by
 rcases h with h | h
 ·exact .inl h
 ·rcases k with k | k
  ·exact .inl (by omega)
  ·exact .inr (by omega)
end Go.Proofs.YtiojekbkamegdaaGreatDoor
namespace Go.Proofs.YtiojekbkamegdaaGreatDoor
open Go.Proofs.Tryz
end Go.Proofs.YtiojekbkamegdaaGreatDoor
namespace Go.Proofs.YtiojekbkamegdaaGreatDoor
open Go.Proofs.Tryz
end Go.Proofs.YtiojekbkamegdaaGreatDoor
namespace Go.Proofs.YtiojekbkamegdaaGreatDoor
open Go.Proofs.Tryz
structure Less (a a' : Rng) : Prop where
 ok : ok64 a
 ok' : ok64 a'
 ne : a.1 ≤ a.2
 sub : a'.1 ≤ a.1 ∧ a.2 ≤ a'.2
theorem Less.zero : Less (0, 0) (0, 0) := ⟨⟨by decide, by decide⟩, ⟨by decide, by decide⟩, by decide, by decide, by decide⟩
end Go.Proofs.YtiojekbkamegdaaGreatDoor
namespace Go.Proofs.YtiojekbkamegdaaGreatDoor
open Go.Proofs.Tryz
def lv (l : List Rng) (v : Int) : Rng := (l[v.toNat]?).getD noR
structure Rules (n : Nat) (rule : List Rng → Int → Rng) (vs : List Int) : Prop where
 mono : ∀ l l' v, l.length = n → l'.length = n → (∀ u : Int, 0 ≤ u → rSub (lv l u) (lv l' u)) → (∀ u : Int, 0 ≤ u → ok64 (lv l u)) → (∀ u : Int, 0 ≤ u → ok64 (lv l' u)) → v ∈ vs → rSub (rule l v) (rule l' v)
 ok : ∀ l v, l.length = n → (∀ u : Int, 0 ≤ u → ok64 (lv l u)) → v ∈ vs → ok64 (rule l v)
 rng : ∀ v ∈ vs, 0 ≤ v ∧ v < n
end Go.Proofs.YtiojekbkamegdaaGreatDoor
namespace Go.Proofs.YtiojekbkamegdaaGreatDoor
open Go.Proofs.Tryz
section
variable {n : Nat} {rule : List Rng → Int → Rng} {widn : Nat → Int → Option Rng} {vs : List Int} (hR : Rules n rule vs) (hw : ∀ i v t, widn i v = some t → ok64 t)
include hR hw
end
end Go.Proofs.YtiojekbkamegdaaGreatDoor
namespace Go.Proofs.YtiojekbkamegdaaGreatDoor
open Go.Proofs.Tryz
end Go.Proofs.YtiojekbkamegdaaGreatDoor
namespace Go.Proofs.YtiojekbkamegdaaGreatDoor
open Go.Proofs.Tryz
def chkQ (f : PFunc) (op : Int) (args : List Int) (i : Nat) (block at_ : Int) (q : PInst × Nat) : Bool := decide (q.1.op = op) && decide (q.1.args = args) && aheadB f ((i : Int), (q.2 : Int)) block at_
def chkI (f : PFunc) (op : Int) (args : List Int) (block at_ : Int) (i : Nat) : Bool := ((f.blocks[i]?).map fun b => b.insts.zipIdx.any (chkQ f op args i block at_)).getD false
def chkW (f : PFunc) (op : Int) (args : List Int) (block at_ : Int) : Bool := (List.range f.blocks.length).any (chkI f op args block at_)
def isSum (op : Int) : Bool := decide (op = 2 ∨ op = 3 ∨ op = 4)
def chkX (f : PFunc) (x : PInst) (block at_ : Int) : Bool := isSum x.op && chkW f (x.op + 19) x.args block at_
def instAt (f : PFunc) (m : Plc) : Option PInst := if 0 ≤ m.1 ∧ 0 ≤ m.2 then (f.blocks[m.1.toNat]?).bind fun b => b.insts[m.2.toNat]? else none
def chkV (f : PFunc) (v : Int) : Bool := ((instAt f (makerT f v)).map fun x => chkX f x (makerT f v).1 (makerT f v).2).getD false
theorem range_any_succ {p : Nat → Bool} {k : Nat} (h : (List.range k).any p = false) (hk : p k = false) : (List.range (k + 1)).any p = false := by rw [List.range_succ, List.any_append, h]; simp [hk]
theorem range_any_hit {p : Nat → Bool} {k n : Nat} (hk : k < n) (h : p k = true) : (List.range n).any p = true := List.any_eq_true.2 ⟨k, List.mem_range.2 hk, h⟩
theorem any_take {α : Type} {p : α → Bool} {l : List α} {k : Nat} (h : k < l.length) (h1 : (l.take k).any p = false) (h2 : p l[k] = false) : (l.take (k + 1)).any p = false := by
 rw [qr h, List.any_append, h1]; simp [h2]
theorem mem_mkBlk {v i : Int} {b : PBlock} {m : Plc} : m ∈ mkBlk v i b ↔ (∃ p ∈ b.phis, p.dst = v ∧ m = (i, -1)) ∨ ∃ (k : Nat) (x : PInst), b.insts[k]? = some x ∧ x.dst = v ∧ m = (i, (k : Int)) := by
 unfold mkBlk
 rw [List.mem_append]
 constructor
 ·rintro (h | h)
  ·obtain ⟨p, hp, e⟩ := List.mem_map.1 h
   obtain ⟨h1, h2⟩ := List.mem_filter.1 hp
   exact .inl ⟨p, h1, by simpa using h2, e.symm⟩
  ·obtain ⟨q, hq, e⟩ := List.mem_map.1 h
   obtain ⟨h1, h2⟩ := List.mem_filter.1 hq
   obtain ⟨x, k⟩ := q
   have := List.mem_zipIdx_iff_getElem?.1 h1
   exact .inr ⟨k, x, this, by simpa using h2, e.symm⟩
 ·rintro (⟨p, h1, h2, rfl⟩ | ⟨k, x, h1, h2, rfl⟩)
  ·exact .inl (List.mem_map.2 ⟨p, List.mem_filter.2 ⟨h1, by simpa using h2⟩, rfl⟩)
  ·exact .inr (List.mem_map.2 ⟨(x, k), List.mem_filter.2 ⟨List.mem_zipIdx_iff_getElem?.2 h1, by simpa using h2⟩, rfl⟩)
theorem mem_makings {f : PFunc} {v : Int} {m : Plc} : m ∈ makings f v ↔ ∃ (i : Nat) (b : PBlock), f.blocks[i]? = some b ∧ m ∈ mkBlk v i b := by
 unfold makings
 rw [List.mem_flatMap]
 constructor
 ·rintro ⟨⟨b, i⟩, h1, h2⟩; exact ⟨i, b, List.mem_zipIdx_iff_getElem?.1 h1, h2⟩
 ·rintro ⟨i, b, h1, h2⟩; exact ⟨(b, i), List.mem_zipIdx_iff_getElem?.2 h1, h2⟩
theorem maker_mem {f : PFunc} {v : Int} (h : 0 ≤ (makerT f v).1) : makerT f v ∈ makings f v := by
 unfold makerT at h ⊢
 cases hm : makings f v with
 | nil => rw [hm] at h; simp at h
 | cons x l => simp
theorem maker_eq {f : PFunc} {v : Int} {m : Plc} (hl : (makings f v).length ≤ 1) (h : m ∈ makings f v) : makerT f v = m := by
 unfold makerT
 cases hm : makings f v with
 | nil => rw [hm] at h; cases h
 | cons x l =>
  rw [hm] at h hl
  cases l with
  | nil => simp at h; simp [h]
  | cons y l => simp at hl
theorem maker_cases {f : PFunc} {v : Int} (h : 0 ≤ (makerT f v).1) : ∃ (i : Nat) (b : PBlock), f.blocks[i]? = some b ∧ ((∃ p ∈ b.phis, p.dst = v ∧ makerT f v = ((i : Int), -1)) ∨ ∃ (k : Nat) (x : PInst), b.insts[k]? = some x ∧ x.dst = v ∧ makerT f v = ((i : Int), (k : Int))) := by
 obtain ⟨i, b, h1, h2⟩ := mem_makings.1 (maker_mem h)
 exact ⟨i, b, h1, mem_mkBlk.1 h2⟩
theorem chkV_at {f : PFunc} {v : Int} {i k : Nat} {b : PBlock} {x : PInst} (hb : f.blocks[i]? = some b) (hx : b.insts[k]? = some x) (hm : makerT f v = ((i : Int), (k : Int))) : chkV f v = chkX f x i k := by
 unfold chkV instAt
 rw [hm, if_pos ⟨by dsimp only; omega, by dsimp only; omega⟩]
 show (((f.blocks[i]?).bind fun b => b.insts[k]?).map fun x => chkX f x i k).getD false = _
 rw [hb]; show ((b.insts[k]?).map _).getD false = _
 rw [hx]; rfl
end Go.Proofs.YtiojekbkamegdaaGreatDoor
namespace Go.Proofs.YtiojekbkamegdaaGreatDoor
open Go.Proofs.Tryz
def stopB (op : Int) : Bool := decide (op = 15) || (decide (op = 17) || (decide (18 ≤ op) && decide (op ≤ 24)))
def inTo (f : PFunc) (b : Int) : List Int := predsT (EndsOf f) f.blocks.length b
def ownB (f : PFunc) (b v : Int) : Bool := decide ((makerT f v).1 = b) && decide (0 ≤ (makerT f v).2)
def mayB (f : PFunc) (b : Int) : Bool := decide (2 ≤ (inTo f b).length) && !(inTo f b).contains b
def instsAt (f : PFunc) (b : Int) : List PInst := ((f.blocks[b.toNat]?).map PBlock.insts).getD []
def phisAt (f : PFunc) (b : Int) : List PPhi := ((f.blocks[b.toNat]?).map PBlock.phis).getD []
def instOf (f : PFunc) (b a : Int) : PInst := ((instsAt f b)[a.toNat]?).getD ⟨0, -1, [], 0⟩
def firstJ (f : PFunc) (b i : Int) : Int := if i < 0 then -1 else if (18 ≤ (instOf f b i).op ∧ (instOf f b i).op ≤ 24) ∧ (instOf f b i).args.any (ownB f b) = false then i else -1
def firstF (f : PFunc) (b : Int) : Int := if (0 ≤ b ∧ b < f.blocks.length) ∧ mayB f b = true then firstJ f b (firstI (fun x => stopB x.op) (instsAt f b) 0) else -1
def ixF (l : List Int) (p : Int) : Int := firstI (fun x => decide (p = x)) l 0
def comesB (p v : Int) (q : PPhi) : Bool := decide (q.dst = v) && decide (0 ≤ ixF q.from_ p)
def toV (ps : List PPhi) (p v : Int) : Int := ((ps.find? (comesB p v)).map fun q => (q.args[(ixF q.from_ p).toNat]?).getD v).getD v
def fromF (f : PFunc) (b a p : Int) : PInst := ⟨(instOf f b a).op, -1, (instOf f b a).args.map (toV (phisAt f b) p), 0⟩
def passQ (f : PFunc) (x : PInst) (i : Nat) (p : Int) (own : Plc) (q : PInst × Nat) : Bool := decide (q.1.op = x.op) && (decide (q.1.args = x.args) && (!decide (((i : Int), (q.2 : Int)) = own) && aheadB f ((i : Int), (q.2 : Int)) p (lenAt f p)))
def passI (f : PFunc) (x : PInst) (p : Int) (own : Plc) (i : Nat) : Bool := ((f.blocks[i]?).map fun b => b.insts.zipIdx.any (passQ f x i p own)).getD false
def passF (f : PFunc) (x : PInst) (p : Int) (own : Plc) : Bool := (List.range f.blocks.length).any (passI f x p own)
theorem passI_at {f : PFunc} {x : PInst} {p : Int} {own : Plc} {i : Nat} {b : PBlock} (h : f.blocks[i]? = some b) : passI f x p own i = b.insts.zipIdx.any (passQ f x i p own) := by unfold passI; rw [h]; rfl
def setI (bs : List PBlock) (p : Nat) (g : List PInst → List PInst) : List PBlock := ((bs[p]?).map fun b => bs.set p { b with insts := g b.insts }).getD bs
def sumI (bs : List PBlock) : Nat := (bs.map fun b => b.phis.length + b.insts.length).sum
def addX (f : PFunc) (b a : Int) (st : List PBlock × Bool) (p : Int) : List PBlock × Bool :=
 if passF f (fromF f b a p) p (b, a) = true then (st.1, true) else (setI st.1 p.toNat (· ++ [fromF f b a p]), st.2)
def shutB (f : PFunc) (b a p : Int) : Bool := !passF f (fromF f b a p) p (b, a) && decide (1 < (EndsOf f p).length)
def movedB (f : PFunc) (b a : Int) : List PBlock := setI ((inTo f b).foldl (addX f b a) (f.blocks, false)).1 b.toNat (fun l => l.eraseIdx a.toNat)
def stepF (f : PFunc) (pl : Bool) (b : Int) : PFunc × Bool :=
 if pl = true ∧ 0 ≤ firstF f b ∧ (inTo f b).any (shutB f b (firstF f b)) = false ∧ ((inTo f b).foldl (addX f b (firstF f b)) (f.blocks, false)).2 = true ∧ sumI (movedB f b (firstF f b)) ≤ 1024
 then ({ f with blocks := movedB f b (firstF f b) }, true) else (f, false)
theorem setI_len (bs : List PBlock) (p : Nat) (g : List PInst → List PInst) : (setI bs p g).length = bs.length := by unfold setI; cases bs[p]? <;> simp
theorem addX_len (f : PFunc) (b a : Int) (st : List PBlock × Bool) (p : Int) : (addX f b a st p).1.length = st.1.length := by unfold addX; split <;> simp [setI_len]
theorem addX_fold_len (f : PFunc) (b a : Int) : ∀ (l : List Int) (st : List PBlock × Bool), (l.foldl (addX f b a) st).1.length = st.1.length
 | [], _ => rfl
 | p :: l, st => by rw [List.foldl_cons, addX_fold_len f b a l, addX_len]
end Go.Proofs.YtiojekbkamegdaaGreatDoor
