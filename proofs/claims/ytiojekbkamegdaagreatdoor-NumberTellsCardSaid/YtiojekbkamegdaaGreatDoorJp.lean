/- How a first check comes from another block; whether it was passed: the program's; the two that are asked. Of programs that are little. -/
import Derived.Test.YtiojekbkamegdaaGreatDoorJo
import Derived.Test.YtiojekbkamegdaaGreatDoorJh
import Derived.Test.YtiojekbkamegdaaGreatDoorJd
set_option linter.unusedVariables false
set_option linter.unusedSimpArgs false
set_option linter.unusedSectionVars false
namespace Go.Proofs.YtiojekbkamegdaaGreatDoor
open Go.Proofs.Tryz
open Go.Proofs Go.Lib Go.Shelf Go.RowKit
variable {E : World}
set_option maxRecDepth 20000
theorem want_1 {f : PFunc} {x : PInst} {m : Nat} (e : x.op = 1) (h : m < (wantL f x).length) : (wantL f x)[m] = kindV f x.dst := by
 have h2 : (wantL f x)[m]? = some (kindV f x.dst) := by
  unfold wantL at h ⊢
  rw [if_pos e] at h ⊢
  simp at h
  subst h; rfl
 rw [qj h] at h2
 exact Option.some.inj h2
theorem want_2 {f : PFunc} {x : PInst} {m : Nat} (e : ¬ x.op = 1) (h : m < (wantL f x).length) (h' : m < (takesL x.op).length) : (wantL f x)[m] = (takesL x.op)[m] := by
 have h2 : (wantL f x)[m]? = some ((takesL x.op)[m]) := by
  unfold wantL
  rw [if_neg e, qj h']
 rw [qj h] at h2
 exact Option.some.inj h2
theorem term_kind {f : PFunc} {t : PTerm} (h : termOK f t = true) : t.kind = 0 ∨ t.kind = 1 ∨ t.kind = 2 := by
 unfold termOK at h
 by_cases h0 : t.kind = 0
 ·exact .inl h0
 ·rw [if_neg h0] at h
  by_cases h1 : t.kind = 1
  ·exact .inr (.inl h1)
  ·rw [if_neg h1] at h
   by_cases h2 : t.kind = 2
   ·exact .inr (.inr h2)
   ·rw [if_neg h2] at h; cases h
set_option maxHeartbeats 8000000 in
theorem refTyped_spec (f : PFunc) (hf : small f) (hS : ShapedP f) : AFun prog E 50 [.agg (encF f)] (.bool (f.blocks.all (blkT f))) := by
 have hn := hf.2.2.1
 refine zn func50 rfl (by decide) rfl<|zSr<|yd (cs := _) rfl rfl rfl<|z2 (zAb rfl)<|z6<|za<|zSr<|z2 (zFF underlying26 rfl sizeOf24 rfl rfl)<|z2 (zLf isAgg24 rfl)<|z2 (zu underlying24 rfl)<|z2 (zMi rfl)<|z6<|zf<|zz (γ := Nat) [1, 16, 17] (fun i => [(18, .int .i64 i)]) (fun i => []) (fun i => i ≤ f.blocks.length ∧ (f.blocks.take i).all (blkT f) = true) (fun i => f.blocks.length - i) 0 zR1 zLe (⟨qm _, rfl⟩) ?_
 rintro i ⟨hi, hall⟩
 refine zSr<|z2 (yc rfl rfl)<|z6<|za<|zp rfl (fun ci=>?_) (fun ci=>?_)
 ·have hi2 : i < f.blocks.length := by simp at ci; omega
  obtain ⟨b, hbi⟩ : ∃ b, f.blocks[i] = b := ⟨_, rfl⟩
  have hget : f.blocks[i]? = some b := by rw [qj hi2, hbi]
  have hmem : b ∈ f.blocks := hbi ▸ qn hi2
  obtain ⟨hb0, hb1, hb2, hb3, hb4⟩ := hf.2.2.2.2 b hmem
  obtain ⟨hPh, hIn, hTm⟩ := hS.2.2.2.2.2 b hmem
  have hbad : blkT f b = false → f.blocks.all (blkT f) = false := fun h => Bool.eq_false_iff.2 (all_bad hi2 (by rw [hbi]; exact h))
  refine zd<|za<|zf<|zSr<|z2 (zIM i underlying24 sizeOf58 rfl rfl rfl hget)<|z2 (zl isAgg58 sizeOf58 rfl rfl)<|y4 (cs := [.str ⟨#[]⟩, .raw (.slice none 0 0), .raw (.slice none 0 0), .int .i64 0, .int .i64 0, .int .i64 0, .int .i64 0]) zeroValue58 rfl rfl<|fun i4 => zw sizeOf58 rfl rfl rfl rfl rfl rfl .head rfl<|ze (yh (t := 4) rfl .head)<|z6<|za<|zSr<|z2 (zFF underlying58 rfl sizeOf51 rfl rfl)<|z2 (zLf isAgg51 rfl)<|z2 (zu underlying51 rfl)<|z2 (zMi rfl)<|z6<|zf<|zz (γ := Nat) [1, 4, 16, 17, 18, 23, 24] (fun j => [(25, .int .i64 j)]) (fun j => []) (fun j => j ≤ b.phis.length ∧ (b.phis.take j).all (phiT f) = true) (fun j => b.phis.length - j) 0 zR1 zLe (⟨qm _, rfl⟩) ?_
  rintro j ⟨hj, hjall⟩
  refine zSr<|z2 (yc rfl rfl)<|z6<|za<|zp rfl (fun cj=>?_) (fun cj=>?_)
  ·have hj2 : j < b.phis.length := by simp at cj; omega
   obtain ⟨p, hp⟩ : ∃ p, b.phis[j] = p := ⟨_, rfl⟩
   have hpm : p ∈ b.phis := hp ▸ qn hj2
   obtain ⟨hpd, hpl, hpn, hpa, hpf⟩ := hPh p hpm
   have hpb := (hb3 p hpm).1
   refine zd<|za<|zf<|zSr<|z2 (zIM j underlying51 sizeOf81 rfl rfl rfl (by rw [qj hj2, hp])) ?_
   refine z2 (zl isAgg81 sizeOf81 rfl rfl)<|y4 (cs := [.int .i64 0, .raw (.slice none 0 0), .raw (.slice none 0 0)]) zeroValue81 rfl rfl<|fun i6 => zw sizeOf81 rfl rfl rfl rfl rfl rfl .head rfl<|ze (yh (t := 6) rfl .head)<|z6<|zSr<|z2 (zFF underlying81 rfl sizeOf23 rfl rfl)<|z2 (zLf isAgg23 rfl)<|z2 (zu underlying23 rfl)<|z2 (zMi rfl)<|z6<|zf<|zz (γ := Nat) [1, 4, 6, 16, 17, 18, 23, 24, 25, 30, 31] (fun k => [(32, .int .i64 k)]) (fun k => []) (fun k => k ≤ p.args.length ∧ (p.args.take k).all (fun v => decide (kindV f v = kindV f p.dst)) = true) (fun k => p.args.length - k) 0 zR1 zLe (⟨qm _, rfl⟩) ?_
   rintro k ⟨hk, hkall⟩
   refine zSr<|z2 (yc rfl rfl)<|z6<|za<|zp rfl (fun ck=>?_) (fun ck=>?_)
   ·have hk2 : k < p.args.length := by simp at ck; omega
    obtain ⟨v, hv⟩ : ∃ v, p.args[k] = v := ⟨_, rfl⟩
    have hvv := List.all_eq_true.1 hpa v (hv ▸ qn hk2)
    refine zd<|za<|zf<|zSr<|z2 (zIM k underlying23 sizeOf3 rfl rfl rfl (by rw [qj hk2, hv])) ?_
    refine z2 (zLi isAgg3 rfl)<|z2 (zAi rfl)<|z6<|za<|yb (fun j => false) (by kernel_rfl) rfl (zq (.rest _))<|zTk 0 rfl (zl isAgg26 sizeOf26 rfl rfl)<|zTk 1 rfl (zMi rfl)<|zTk 3 rfl (zl isAgg26 sizeOf26 rfl rfl)<|zTk 4 rfl (zFF underlying81 rfl sizeOf3 rfl rfl)<|zTk 5 rfl (zLi isAgg3 rfl)<|zOn 2 rfl<|zk (rof_spec f v hvv) rfl<|z6<|zOn 6 rfl<|zk (rof_spec f p.dst hpd) rfl<|z6<|zTk 7 rfl (yi rfl rfl)<|zDn<|zr rfl (fun cq=>?_) (fun cq=>?_)
    ·have hq : ¬ kindV f v = kindV f p.dst := by simpa using cq
     have hph : phiT f p = false := by
      unfold phiT
      rw [show (p.args.any fun v => !decide (kindV f v = kindV f p.dst)) = true from List.any_eq_true.2 ⟨v, hv ▸ qn hk2, by simp [hq]⟩]; rfl
     refine zSr<|z2 (zAb rfl)<|z6<|zh<|zj (x := .bool _) rfl ?_
     rw [hbad (by unfold blkT; rw [show b.phis.all (phiT f) = false from Bool.eq_false_iff.2 (all_bad hj2 (by rw [hp]; exact hph))]; rfl)]
    ·have hq : kindV f v = kindV f p.dst := by simpa using cq
     refine zd<|zRg<|z2 (zAd rfl rfl)<|z2 (zMi rfl)<|z6 ?_
     exact ⟨k + 1, zR11, zR1, zLe, ⟨hk2, all_take hk2 hkall (by rw [hv]; simp [hq])⟩, by omega⟩
   ·have hkn : k = p.args.length := by simp at ck; omega
    rw [hkn, qo] at hkall
    have hph : phiT f p = true := by
     unfold phiT
     rw [show (p.args.any fun v => !decide (kindV f v = kindV f p.dst)) = false from List.any_eq_false.2 fun v hv => by have := List.all_eq_true.1 hkall v hv; simpa using this]; rfl
    refine zx<|zRg<|z2 (zAd rfl rfl)<|z2 (zMi rfl)<|z6 ?_
    exact ⟨j + 1, zR7, zR1, zLe, ⟨hj2, all_take hj2 hjall (by rw [hp]; exact hph)⟩, by omega⟩
  ·have hjn : j = b.phis.length := by simp at cj; omega
   subst hjn
   rw [qo] at hjall
   refine zx<|za<|zSr<|z2 (zFF underlying58 rfl sizeOf52 rfl rfl)<|z2 (zLf isAgg52 rfl)<|z2 (zu underlying52 rfl)<|z2 (zMi rfl)<|z6<|zf<|zz (γ := Nat) [1, 4, 16, 17, 18, 47, 48] (fun k => [(49, .int .i64 k)]) (fun k => []) (fun k => k ≤ b.insts.length ∧ (b.insts.take k).all (instT f) = true) (fun k => b.insts.length - k) 0 zR1 zLe (⟨qm _, rfl⟩) ?_
   rintro k ⟨hk, hkall⟩
   refine zSr<|z2 (yc rfl rfl)<|z6<|za<|zp rfl (fun ck=>?_) (fun ck=>?_)
   ·have hk2 : k < b.insts.length := by simp at ck; omega
    obtain ⟨z, hz⟩ : ∃ z, b.insts[k] = z := ⟨_, rfl⟩
    have hzm : z ∈ b.insts := hz ▸ qn hk2
    have hI := instP_F (hIn z hzm)
    have hzl := hb4 z hzm
    have hwl := wantL_len hI
    have hdst : makesB z.op = true → hasV f z.dst = true := fun h => by
     rcases hI.dst with ⟨d1, _⟩ | ⟨_, _, d3⟩
     ·rw [h] at d1; cases d1
     ·exact d3
    have hcopy : z.op = 1 → makesB z.op = true := fun h => by rw [h]; rfl
    have hib : instT f z = false → f.blocks.all (blkT f) = false := fun h => hbad (by unfold blkT; rw [hjall, show b.insts.all (instT f) = false from Bool.eq_false_iff.2 (all_bad hk2 (by rw [hz]; exact h))]; rfl)
    refine zd<|za<|zf<|zSr<|z2 (zIM k underlying52 sizeOf61 rfl rfl rfl (by rw [qj hk2, hz])) ?_
    refine z2 (zl isAgg61 sizeOf61 rfl rfl)<|y4 (cs := [.int .i64 0, .int .i64 0, .raw (.slice none 0 0), .int .i64 0]) zeroValue61 rfl rfl<|fun i10 => zw sizeOf61 rfl rfl rfl rfl rfl rfl .head rfl<|ze (yh (t := 10) rfl .head)<|z6<|za<|yp (γ := Nat) [1, 4, 10, 16, 17, 18, 47, 48, 49] (fun g => [(11, .po g 0)]) (fun g => [(g, .cells 170 (encK (kRow z.op)))]) (fun g => True) ?_ (fun _ _ h => h) ?_
    ·refine yb (fun j => false) (by kernel_rfl) rfl (zq (.rest _))<|zTk 1 rfl (zFF underlying61 rfl sizeOf59 rfl rfl)<|zTk 2 rfl (zLi isAgg59 rfl)<|yq (i := 0) (j := 5) rfl rfl (by kernel_rfl) ?_ ?_
     ·refine zk (rows_spec) rfl<|z6<|zTk 3 rfl (zIM z.op.toNat underlying171 sizeOf170 rfl rfl (by have := hI.op; omega) (kRow_get hI.op))<|zTk 4 rfl (zl isAgg170 sizeOf170 rfl rfl)<|zOn 5 rfl<|y4 (cs := [.str ⟨#[]⟩, .str ⟨#[]⟩, .str ⟨#[]⟩]) zeroValue170 rfl rfl<|fun i11 => z6<|zOn 6 rfl<|zw sizeOf170 rfl rfl rfl rfl rfl rfl .head rfl<|z6<|zDn ?_
      exact ⟨i11, zR9, zR1, zLe, trivial⟩
     ·refine y4 (cs := [.str ⟨#[]⟩, .str ⟨#[]⟩, .str ⟨#[]⟩]) zeroValue170 rfl rfl<|fun i11 => z6<|zOn 0 rfl<|zk (rows_spec) rfl<|z6<|zTk 3 rfl (zIM z.op.toNat underlying171 sizeOf170 rfl rfl (by have := hI.op; omega) (kRow_get hI.op))<|zTk 4 rfl (zl isAgg170 sizeOf170 rfl rfl)<|zOn 6 rfl<|zw sizeOf170 rfl rfl rfl rfl rfl rfl .head rfl<|z6<|zDn ?_
      exact ⟨i11, zR9, zR1, zLe, trivial⟩
    ·rintro i11 _
     refine za<|zSr<|z2 (zFF underlying61 rfl sizeOf23 rfl rfl)<|z2 (zLf isAgg23 rfl)<|z2 (zu underlying23 rfl)<|z2 (zMi rfl)<|z6<|zf<|zz (γ := Nat) [1, 4, 10, 11, 16, 17, 18, 47, 48, 49, 60] (fun m => [(61, .int .i64 m)]) (fun m => [(i11, .cells 170 (encK (kRow z.op)))]) (fun m => m ≤ z.args.length ∧ (z.args.take m).map (kindV f) = (wantL f z).take m) (fun m => z.args.length - m) 0 zR1 zLe (⟨qm _, by simp⟩) ?_
     rintro m ⟨hm, hmall⟩
     refine zSr<|z2 (yc rfl rfl)<|z6<|za<|zp rfl (fun cm=>?_) (fun cm=>?_)
     ·have hm2 : m < z.args.length := by simp at cm; omega
      have hmw : m < (wantL f z).length := by omega
      have hmt : m < (takesL z.op).length := by have := hI.len; omega
      obtain ⟨v, hv⟩ : ∃ v, z.args[m] = v := ⟨_, rfl⟩
      have hvv := hI.args v (hv ▸ qn hm2)
      obtain ⟨c, hc, hct⟩ := takes_byte hmt
      have hbadm : ¬ kindV f v = (wantL f z)[m] → f.blocks.all (blkT f) = false := fun h => hib (by rw [instT_want hI, qw (map_ne hm2 hmw (by rw [hv]; exact h))]; rfl)
      refine zd<|za<|zf<|zSr<|z2 (zMi rfl)<|z2 (zAi rfl)<|z6<|zSr<|z2 (zi underlying170 rfl sizeOf9 (by decide) rfl rfl)<|z2 (zm (c := .str _) isAgg9 rfl ⟨_, .head⟩ rfl)<|z2 (zMi rfl)<|z2 (Gv.indexT (j := m) underlying9 rfl rfl rfl hc)<|zk (rtype_spec (c.toNat : Int)) rfl<|z2 (zAi rfl)<|z6<|za<|zSr<|z2 (zi underlying170 rfl sizeOf9 (by decide) rfl rfl)<|z2 (zm (c := .str _) isAgg9 rfl ⟨_, .head⟩ rfl)<|z2 (qc rfl rfl)<|z6<|zr rfl (fun cw=>?_) (fun cw=>?_)
      ·have ew : z.op = 1 := (copy_op hI.op).1 (by simpa using cw)
       refine zRg<|z2 (zl isAgg26 sizeOf26 rfl rfl)<|z2 (zFF underlying61 rfl sizeOf3 rfl rfl)<|z2 (zLi isAgg3 rfl)<|zk (rof_spec f z.dst (hdst (hcopy ew))) rfl<|z2 (zAi rfl)<|z6<|za<|yb (fun j => false) (by kernel_rfl) rfl (zq (.rest _))<|zTk 0 rfl (zl isAgg26 sizeOf26 rfl rfl)<|zTk 1 rfl (zFF underlying61 rfl sizeOf23 rfl rfl)<|zTk 2 rfl (zLf isAgg23 rfl)<|zTk 3 rfl (zMi rfl)<|zTk 4 rfl (zIM m underlying23 sizeOf3 rfl rfl rfl (by rw [qj hm2, hv])) ?_
       refine zTk 5 rfl (zLi isAgg3 rfl)<|zTk 7 rfl (zMi rfl)<|zOn 6 rfl<|zk (rof_spec f v hvv) rfl<|z6<|zTk 8 rfl (yi rfl rfl)<|zDn<|zr rfl (fun cq=>?_) (fun cq=>?_)
       ·have hq : ¬ kindV f v = kindV f z.dst := by simpa using cq
        refine zSr<|z2 (zAb rfl)<|z6<|zh<|zj (x := .bool _) rfl ?_
        rw [hbadm (by rw [want_1 ew hmw]; exact hq)]
       ·have hq : kindV f v = kindV f z.dst := by simpa using cq
        refine zd<|zRg<|z2 (zAd rfl rfl)<|z2 (zMi rfl)<|z6 ?_
        exact ⟨m + 1, zR11, zR1, zLe, ⟨hm2, map_take_succ hm2 hmw hmall (by rw [hv, want_1 ew hmw]; exact hq)⟩, by omega⟩
      ·have ew : ¬ z.op = 1 := fun e => by have := (copy_op hI.op).2 e; simp [this] at cw
       refine zd<|za<|yb (fun j => false) (by kernel_rfl) rfl (zq (.rest _))<|zTk 0 rfl (zl isAgg26 sizeOf26 rfl rfl)<|zTk 1 rfl (zFF underlying61 rfl sizeOf23 rfl rfl)<|zTk 2 rfl (zLf isAgg23 rfl)<|zTk 3 rfl (zMi rfl)<|zTk 4 rfl (zIM m underlying23 sizeOf3 rfl rfl rfl (by rw [qj hm2, hv])) ?_
       refine zTk 5 rfl (zLi isAgg3 rfl)<|zTk 7 rfl (zMi rfl)<|zOn 6 rfl<|zk (rof_spec f v hvv) rfl<|z6<|zTk 8 rfl (yi rfl rfl)<|zDn<|zr rfl (fun cq=>?_) (fun cq=>?_)
       ·have hq : ¬ kindV f v = typeOf (c.toNat : Int) := by simpa using cq
        refine zSr<|z2 (zAb rfl)<|z6<|zh<|zj (x := .bool _) rfl ?_
        rw [hbadm (by rw [want_2 ew hmw hmt, hct]; exact hq)]
       ·have hq : kindV f v = typeOf (c.toNat : Int) := by simpa using cq
        refine zd<|zRg<|z2 (zAd rfl rfl)<|z2 (zMi rfl)<|z6 ?_
        exact ⟨m + 1, zR11, zR1, zLe, ⟨hm2, map_take_succ hm2 hmw hmall (by rw [hv, want_2 ew hmw hmt, hct]; exact hq)⟩, by omega⟩
     ·have hmn : m = z.args.length := by simp at cm; omega
      have hall2 : z.args.map (kindV f) = wantL f z := by rw [hmn, qo, hwl, qo] at hmall; exact hmall
      have hiw := instT_want hI
      rw [qv hall2, Bool.true_and] at hiw
      refine zx<|za<|yb (fun j => false) (by kernel_rfl) rfl (zq (.r (.rest _)))<|zTk 0 rfl (zi underlying170 rfl sizeOf9 (by decide) rfl rfl)<|zTk 1 rfl (zm (c := .str _) isAgg9 rfl ⟨_, .head⟩ rfl)<|zTk 2 rfl (Gv.neqT rfl rfl)<|zTk 3 rfl (zMb rfl)<|AAny.case (s := 89) rfl (fun c1=>?_) (fun c1=>?_)
      ·have d1 : ¬ (kRow z.op).2.2 = ⟨#[]⟩ := by simpa using c1
       have dm : makesB z.op = true := by rw [makesB_eq, qw d1]; rfl
       obtain ⟨c, hc, hct⟩ := makes_byte d1
       refine zTt 4 rfl rfl rfl c1 (zi underlying170 rfl sizeOf9 (by decide) rfl rfl)<|zTt 5 rfl rfl rfl c1 (zm (c := .str _) isAgg9 rfl ⟨_, .head⟩ rfl)<|zTt 6 rfl rfl rfl c1 (Gv.neqT rfl rfl)<|zTk 7 rfl (zPt rfl c1 rfl)<|zTk 8 rfl (zMb rfl)<|AAny.case (s := 94) rfl (fun c2=>?_) (fun c2=>?_)
       ·have ew : ¬ z.op = 1 := fun e => by have := (copy_op hI.op).2 e; simp [this] at c2
        refine zTt 9 rfl rfl rfl c2 (zl isAgg26 sizeOf26 rfl rfl)<|zTt 10 rfl rfl rfl c2 (zFF underlying61 rfl sizeOf3 rfl rfl)<|zTt 11 rfl rfl rfl c2 (zLi isAgg3 rfl)<|zTt 13 rfl rfl rfl c2 (zi underlying170 rfl sizeOf9 (by decide) rfl rfl)<|zTt 14 rfl rfl rfl c2 (zm (c := .str _) isAgg9 rfl ⟨_, .head⟩ rfl)<|zTt 15 rfl rfl rfl c2 (Gv.indexT (j := 0) underlying9 rfl rfl rfl hc)<|zOn 12 rfl<|z8 rfl rfl c2<|zk (rof_spec f z.dst (hdst dm)) rfl<|z6<|zOn 16 rfl<|z8 rfl rfl c2<|zk (rtype_spec (c.toNat : Int)) rfl<|z6<|zTt 17 rfl rfl rfl c2 (yi rfl rfl)<|zTk 18 rfl (zPt rfl c2 rfl)<|zDn<|zr rfl (fun cq=>?_) (fun cq=>?_)
        ·have hq : ¬ kindV f z.dst = typeOf (c.toNat : Int) := by simpa using cq
         refine zSr<|z2 (zAb rfl)<|z6<|zh<|zj (x := .bool _) rfl ?_
         rw [hib (by rw [hiw, dm, qw ew, hct, qw hq]; rfl)]
        ·have hq : kindV f z.dst = typeOf (c.toNat : Int) := by simpa using cq
         refine zd<|zRg<|z2 (zAd rfl rfl)<|z2 (zMi rfl)<|z6 ?_
         exact ⟨k + 1, zR7, zR1, ⟨_, (.drop (.refl _)), rfl⟩, ⟨hk2, all_take hk2 hkall (by rw [hz, hiw, hct, qv hq]; simp)⟩, by omega⟩
       ·have ew : z.op = 1 := (copy_op hI.op).1 (by simpa using c2)
        refine zTf 9 rfl rfl rfl c2<|zTf 10 rfl rfl rfl c2<|zTf 11 rfl rfl rfl c2<|zTf 12 rfl rfl rfl c2<|zTf 13 rfl rfl rfl c2<|zTf 14 rfl rfl rfl c2<|zTf 15 rfl rfl rfl c2<|zTf 16 rfl rfl rfl c2<|zTf 17 rfl rfl rfl c2<|zTk 18 rfl (zPf rfl c2 rfl)<|zDn<|yl rfl rfl<|zd<|zRg<|z2 (zAd rfl rfl)<|z2 (zMi rfl)<|z6 ?_
        exact ⟨k + 1, zR7, zR1, ⟨_, (.drop (.refl _)), rfl⟩, ⟨hk2, all_take hk2 hkall (by rw [hz, hiw, qv ew]; simp)⟩, by omega⟩
      ·have d1 : (kRow z.op).2.2 = ⟨#[]⟩ := by simpa using c1
       have dm : makesB z.op = false := by rw [makesB_eq, qv d1]; rfl
       refine zTf 4 rfl rfl rfl c1<|zTf 5 rfl rfl rfl c1<|zTf 6 rfl rfl rfl c1<|zTk 7 rfl (zPf rfl c1 rfl)<|zTk 8 rfl (zMb rfl)<|zTf 9 rfl rfl rfl rfl<|zTf 10 rfl rfl rfl rfl<|zTf 11 rfl rfl rfl rfl<|zTf 12 rfl rfl rfl rfl<|zTf 13 rfl rfl rfl rfl<|zTf 14 rfl rfl rfl rfl<|zTf 15 rfl rfl rfl rfl<|zTf 16 rfl rfl rfl rfl<|zTf 17 rfl rfl rfl rfl<|zTk 18 rfl (zPf rfl rfl rfl)<|zDn<|yl rfl rfl<|zd<|zRg<|z2 (zAd rfl rfl)<|z2 (zMi rfl)<|z6 ?_
       exact ⟨k + 1, zR7, zR1, ⟨_, (.drop (.refl _)), rfl⟩, ⟨hk2, all_take hk2 hkall (by rw [hz, hiw, dm]; rfl)⟩, by omega⟩
   ·have hkn : k = b.insts.length := by simp at ck; omega
    rw [hkn, qo] at hkall
    refine zx<|zSr<|z2 (zFF underlying58 rfl sizeOf56 rfl rfl)<|z2 (zl isAgg56 sizeOf56 rfl rfl)<|y4 (cs := [.int .i64 0, .int .i64 0, .int .i64 0, .int .i64 0]) zeroValue56 rfl rfl<|fun i14 => zw sizeOf56 rfl rfl rfl rfl rfl rfl .head rfl<|ze (yh (t := 14) rfl .head)<|z6<|za<|yp (γ := Bool) [1, 16, 17, 18] (fun u => [(152, .bool u)]) (fun u => []) (fun u => u = !termT f b.term) ?_ (fun _ _ h => h) ?_
    ·have hk3 := term_kind hTm
     refine zRg<|z2 (zFF underlying56 rfl sizeOf53 rfl rfl)<|z2 (zLi isAgg53 rfl)<|z2 (y9 rfl rfl)<|z2 (zMb rfl)<|zo (s := 111) rfl (fun c1=>?_) (fun c1=>?_)
     ·refine z8 rfl rfl c1<|z2 (zl isAgg26 sizeOf26 rfl rfl)<|z8 rfl rfl c1<|z2 (zFF underlying56 rfl sizeOf3 rfl rfl)<|z8 rfl rfl c1<|z2 (zLi isAgg3 rfl)<|z8 rfl rfl c1<|zk (rof_spec f b.term.var (term_var hTm (by simp_all))) rfl<|z8 rfl rfl c1<|z2 (yi rfl rfl)<|z2 (zPt rfl c1 rfl)<|z2 (zMb rfl)<|zo (s := 118) rfl (fun c2=>?_) (fun c2=>?_)
      ·refine z7 rfl rfl c2<|z7 rfl rfl c2<|z7 rfl rfl c2<|z7 rfl rfl c2<|zg rfl rfl<|zg rfl rfl<|zg rfl rfl<|zg rfl rfl<|zg rfl rfl<|zg rfl rfl<|zg rfl rfl<|zg rfl rfl<|zg rfl rfl<|zg rfl rfl<|zg rfl rfl<|zg rfl rfl<|zg rfl rfl<|zg rfl rfl<|zg rfl rfl<|zg rfl rfl<|zg rfl rfl<|z7 rfl rfl c2<|z2 (zPt rfl c2 rfl)<|z2 (zMb rfl)<|z7 rfl rfl rfl<|z7 rfl rfl rfl<|z7 rfl rfl rfl<|z7 rfl rfl rfl<|zg rfl rfl<|zg rfl rfl<|zg rfl rfl<|zg rfl rfl<|z7 rfl rfl rfl<|z2 (zPt rfl rfl rfl)<|z6 ?_
       exact ⟨_, zR4, zR1, zLe, by simp_all [termT] <;> omega⟩
      ·refine z8 rfl rfl c2<|z2 (zFF underlying56 rfl sizeOf53 rfl rfl)<|z8 rfl rfl c2<|z2 (zLi isAgg53 rfl)<|z8 rfl rfl c2<|z2 (y9 rfl rfl)<|z8 rfl rfl c2<|z2 (zMb rfl)<|zo (s := 122) rfl (fun c3=>?_) (fun c3=>?_)
       ·refine z8 rfl rfl c3<|z2 (zl isAgg26 sizeOf26 rfl rfl)<|z8 rfl rfl c3<|z2 (zFF underlying56 rfl sizeOf3 rfl rfl)<|z8 rfl rfl c3<|z2 (zLi isAgg3 rfl)<|z8 rfl rfl c3<|zk (rof_spec f b.term.var (term_var hTm (by simp_all))) rfl<|z8 rfl rfl c3<|z2 (yi rfl rfl)<|z8 rfl rfl c3<|z2 (zMb rfl)<|zo (s := 128) rfl (fun c4=>?_) (fun c4=>?_)
        ·refine z7 rfl rfl c4<|z7 rfl rfl c4<|z7 rfl rfl c4<|z7 rfl rfl c4<|z8 rfl rfl c3<|z2 (zPt rfl c4 rfl)<|z8 rfl rfl c3<|z2 (zMb rfl)<|z7 rfl rfl rfl<|z7 rfl rfl rfl<|z7 rfl rfl rfl<|z7 rfl rfl rfl<|z8 rfl rfl c3<|z2 (zPt rfl rfl rfl)<|z8 rfl rfl c2<|z2 (zPt rfl c3 rfl)<|z2 (zPf rfl c2 rfl)<|z2 (zMb rfl)<|z7 rfl rfl rfl<|z7 rfl rfl rfl<|z7 rfl rfl rfl<|z7 rfl rfl rfl<|zg rfl rfl<|zg rfl rfl<|zg rfl rfl<|zg rfl rfl<|z7 rfl rfl rfl<|z2 (zPt rfl rfl rfl)<|z6 ?_
         exact ⟨_, zR4, zR1, zLe, by simp_all [termT] <;> omega⟩
        ·refine z8 rfl rfl c4<|z2 (zFF underlying56 rfl sizeOf54 rfl rfl)<|z8 rfl rfl c4<|z2 (yx (j := 0) underlying54 sizeOf3 rfl rfl rfl (by decide) rfl)<|z8 rfl rfl c4<|z2 (zLi isAgg3 rfl)<|z8 rfl rfl c4<|z2 (y9 rfl rfl)<|z8 rfl rfl c3<|z2 (zPf rfl c4 rfl)<|z8 rfl rfl c3<|z2 (zMb rfl)<|zo (s := 134) rfl (fun c5=>?_) (fun c5=>?_)
         ·refine z7 rfl rfl c5<|z7 rfl rfl c5<|z7 rfl rfl c5<|z7 rfl rfl c5<|z8 rfl rfl c3<|z2 (zPt rfl c5 rfl)<|z8 rfl rfl c2<|z2 (zPt rfl c3 rfl)<|z2 (zPf rfl c2 rfl)<|z2 (zMb rfl)<|z7 rfl rfl rfl<|z7 rfl rfl rfl<|z7 rfl rfl rfl<|z7 rfl rfl rfl<|zg rfl rfl<|zg rfl rfl<|zg rfl rfl<|zg rfl rfl<|z7 rfl rfl rfl<|z2 (zPt rfl rfl rfl)<|z6 ?_
          exact ⟨_, zR4, zR1, zLe, by simp_all [termT] <;> omega⟩
         ·refine z8 rfl rfl c5<|z2 (zFF underlying56 rfl sizeOf54 rfl rfl)<|z8 rfl rfl c5<|z2 (yx (j := 1) underlying54 sizeOf3 rfl rfl rfl (by decide) rfl)<|z8 rfl rfl c5<|z2 (zLi isAgg3 rfl)<|z8 rfl rfl c5<|z2 (y9 rfl rfl)<|z8 rfl rfl c3<|z2 (zPf rfl c5 rfl)<|z8 rfl rfl c2<|z2 (zPt rfl c3 rfl)<|z2 (zPf rfl c2 rfl)<|z2 (zMb rfl)<|zo (s := 142) rfl (fun c6=>?_) (fun c6=>?_)
          ·refine z7 rfl rfl c6<|z7 rfl rfl c6<|z7 rfl rfl c6<|z7 rfl rfl c6<|zg rfl rfl<|zg rfl rfl<|zg rfl rfl<|zg rfl rfl<|z7 rfl rfl c6<|z2 (zPt rfl c6 rfl)<|z6 ?_
           exact ⟨_, zR4, zR1, zLe, by simp_all [termT] <;> omega⟩
          ·refine z8 rfl rfl c6<|z2 (zFF underlying56 rfl sizeOf53 rfl rfl)<|z8 rfl rfl c6<|z2 (zLi isAgg53 rfl)<|z8 rfl rfl c6<|z2 (y9 rfl rfl)<|z8 rfl rfl c6<|z2 (zMb rfl)<|zo (s := 146) rfl (fun c7=>?_) (fun c7=>?_)
           ·refine z8 rfl rfl c7<|z2 (zFF underlying56 rfl sizeOf54 rfl rfl)<|z8 rfl rfl c7<|z2 (yx (j := 0) underlying54 sizeOf3 rfl rfl rfl (by decide) rfl)<|z8 rfl rfl c7<|z2 (zLi isAgg3 rfl)<|z8 rfl rfl c7<|z2 (y9 rfl rfl)<|z8 rfl rfl c6<|z2 (zPt rfl c7 rfl)<|z2 (zPf rfl c6 rfl)<|z6 ?_
            exact ⟨_, zR4, zR1, zLe, by simp_all [termT] <;> omega⟩
           ·refine z7 rfl rfl c7<|z7 rfl rfl c7<|z7 rfl rfl c7<|z7 rfl rfl c7<|z8 rfl rfl c6<|z2 (zPf rfl c7 rfl)<|z2 (zPf rfl c6 rfl)<|z6 ?_
            exact ⟨_, zR4, zR1, zLe, by simp_all [termT] <;> omega⟩
       ·refine z7 rfl rfl c3<|z7 rfl rfl c3<|z7 rfl rfl c3<|z7 rfl rfl c3<|z7 rfl rfl c3<|z7 rfl rfl c3<|zg rfl rfl<|zg rfl rfl<|zg rfl rfl<|zg rfl rfl<|z7 rfl rfl c3<|z7 rfl rfl c3<|zg rfl rfl<|zg rfl rfl<|zg rfl rfl<|zg rfl rfl<|z7 rfl rfl c3<|z8 rfl rfl c2<|z2 (zPf rfl c3 rfl)<|z2 (zPf rfl c2 rfl)<|z2 (zMb rfl)<|z8 rfl rfl rfl<|z2 (zFF underlying56 rfl sizeOf53 rfl rfl)<|z8 rfl rfl rfl<|z2 (zLi isAgg53 rfl)<|z8 rfl rfl rfl<|z2 (y9 rfl rfl)<|z8 rfl rfl rfl<|z2 (zMb rfl)<|zo (s := 146) rfl (fun c8=>?_) (fun c8=>?_)
        ·refine z8 rfl rfl c8<|z2 (zFF underlying56 rfl sizeOf54 rfl rfl)<|z8 rfl rfl c8<|z2 (yx (j := 0) underlying54 sizeOf3 rfl rfl rfl (by decide) rfl)<|z8 rfl rfl c8<|z2 (zLi isAgg3 rfl)<|z8 rfl rfl c8<|z2 (y9 rfl rfl)<|z8 rfl rfl rfl<|z2 (zPt rfl c8 rfl)<|z2 (zPf rfl rfl rfl)<|z6 ?_
         exact ⟨_, zR4, zR1, zLe, by simp_all [termT] <;> omega⟩
        ·refine z7 rfl rfl c8<|z7 rfl rfl c8<|z7 rfl rfl c8<|z7 rfl rfl c8<|z8 rfl rfl rfl<|z2 (zPf rfl c8 rfl)<|z2 (zPf rfl rfl rfl)<|z6 ?_
         exact ⟨_, zR4, zR1, zLe, by simp_all [termT] <;> omega⟩
     ·refine z7 rfl rfl c1<|z7 rfl rfl c1<|z7 rfl rfl c1<|z7 rfl rfl c1<|z7 rfl rfl c1<|z2 (zPf rfl c1 rfl)<|z2 (zMb rfl)<|z8 rfl rfl rfl<|z2 (zFF underlying56 rfl sizeOf53 rfl rfl)<|z8 rfl rfl rfl<|z2 (zLi isAgg53 rfl)<|z8 rfl rfl rfl<|z2 (y9 rfl rfl)<|z8 rfl rfl rfl<|z2 (zMb rfl)<|zo (s := 122) rfl (fun c9=>?_) (fun c9=>?_)
      ·refine z8 rfl rfl c9<|z2 (zl isAgg26 sizeOf26 rfl rfl)<|z8 rfl rfl c9<|z2 (zFF underlying56 rfl sizeOf3 rfl rfl)<|z8 rfl rfl c9<|z2 (zLi isAgg3 rfl)<|z8 rfl rfl c9<|zk (rof_spec f b.term.var (term_var hTm (by simp_all))) rfl<|z8 rfl rfl c9<|z2 (yi rfl rfl)<|z8 rfl rfl c9<|z2 (zMb rfl)<|zo (s := 128) rfl (fun c10=>?_) (fun c10=>?_)
       ·refine z7 rfl rfl c10<|z7 rfl rfl c10<|z7 rfl rfl c10<|z7 rfl rfl c10<|z8 rfl rfl c9<|z2 (zPt rfl c10 rfl)<|z8 rfl rfl c9<|z2 (zMb rfl)<|z7 rfl rfl rfl<|z7 rfl rfl rfl<|z7 rfl rfl rfl<|z7 rfl rfl rfl<|z8 rfl rfl c9<|z2 (zPt rfl rfl rfl)<|z8 rfl rfl rfl<|z2 (zPt rfl c9 rfl)<|z2 (zPf rfl rfl rfl)<|z2 (zMb rfl)<|z7 rfl rfl rfl<|z7 rfl rfl rfl<|z7 rfl rfl rfl<|z7 rfl rfl rfl<|zg rfl rfl<|zg rfl rfl<|zg rfl rfl<|zg rfl rfl<|z7 rfl rfl rfl<|z2 (zPt rfl rfl rfl)<|z6 ?_
        exact ⟨_, zR4, zR1, zLe, by simp_all [termT] <;> omega⟩
       ·refine z8 rfl rfl c10<|z2 (zFF underlying56 rfl sizeOf54 rfl rfl)<|z8 rfl rfl c10<|z2 (yx (j := 0) underlying54 sizeOf3 rfl rfl rfl (by decide) rfl)<|z8 rfl rfl c10<|z2 (zLi isAgg3 rfl)<|z8 rfl rfl c10<|z2 (y9 rfl rfl)<|z8 rfl rfl c9<|z2 (zPf rfl c10 rfl)<|z8 rfl rfl c9<|z2 (zMb rfl)<|zo (s := 134) rfl (fun c11=>?_) (fun c11=>?_)
        ·refine z7 rfl rfl c11<|z7 rfl rfl c11<|z7 rfl rfl c11<|z7 rfl rfl c11<|z8 rfl rfl c9<|z2 (zPt rfl c11 rfl)<|z8 rfl rfl rfl<|z2 (zPt rfl c9 rfl)<|z2 (zPf rfl rfl rfl)<|z2 (zMb rfl)<|z7 rfl rfl rfl<|z7 rfl rfl rfl<|z7 rfl rfl rfl<|z7 rfl rfl rfl<|zg rfl rfl<|zg rfl rfl<|zg rfl rfl<|zg rfl rfl<|z7 rfl rfl rfl<|z2 (zPt rfl rfl rfl)<|z6 ?_
         exact ⟨_, zR4, zR1, zLe, by simp_all [termT] <;> omega⟩
        ·refine z8 rfl rfl c11<|z2 (zFF underlying56 rfl sizeOf54 rfl rfl)<|z8 rfl rfl c11<|z2 (yx (j := 1) underlying54 sizeOf3 rfl rfl rfl (by decide) rfl)<|z8 rfl rfl c11<|z2 (zLi isAgg3 rfl)<|z8 rfl rfl c11<|z2 (y9 rfl rfl)<|z8 rfl rfl c9<|z2 (zPf rfl c11 rfl)<|z8 rfl rfl rfl<|z2 (zPt rfl c9 rfl)<|z2 (zPf rfl rfl rfl)<|z2 (zMb rfl)<|zo (s := 142) rfl (fun c12=>?_) (fun c12=>?_)
         ·refine z7 rfl rfl c12<|z7 rfl rfl c12<|z7 rfl rfl c12<|z7 rfl rfl c12<|zg rfl rfl<|zg rfl rfl<|zg rfl rfl<|zg rfl rfl<|z7 rfl rfl c12<|z2 (zPt rfl c12 rfl)<|z6 ?_
          exact ⟨_, zR4, zR1, zLe, by simp_all [termT] <;> omega⟩
         ·refine z8 rfl rfl c12<|z2 (zFF underlying56 rfl sizeOf53 rfl rfl)<|z8 rfl rfl c12<|z2 (zLi isAgg53 rfl)<|z8 rfl rfl c12<|z2 (y9 rfl rfl)<|z8 rfl rfl c12<|z2 (zMb rfl)<|zo (s := 146) rfl (fun c13=>?_) (fun c13=>?_)
          ·refine z8 rfl rfl c13<|z2 (zFF underlying56 rfl sizeOf54 rfl rfl)<|z8 rfl rfl c13<|z2 (yx (j := 0) underlying54 sizeOf3 rfl rfl rfl (by decide) rfl)<|z8 rfl rfl c13<|z2 (zLi isAgg3 rfl)<|z8 rfl rfl c13<|z2 (y9 rfl rfl)<|z8 rfl rfl c12<|z2 (zPt rfl c13 rfl)<|z2 (zPf rfl c12 rfl)<|z6 ?_
           exact ⟨_, zR4, zR1, zLe, by simp_all [termT] <;> omega⟩
          ·refine z7 rfl rfl c13<|z7 rfl rfl c13<|z7 rfl rfl c13<|z7 rfl rfl c13<|z8 rfl rfl c12<|z2 (zPf rfl c13 rfl)<|z2 (zPf rfl c12 rfl)<|z6 ?_
           exact ⟨_, zR4, zR1, zLe, by simp_all [termT] <;> omega⟩
      ·refine z7 rfl rfl c9<|z7 rfl rfl c9<|z7 rfl rfl c9<|z7 rfl rfl c9<|z7 rfl rfl c9<|z7 rfl rfl c9<|zg rfl rfl<|zg rfl rfl<|zg rfl rfl<|zg rfl rfl<|z7 rfl rfl c9<|z7 rfl rfl c9<|zg rfl rfl<|zg rfl rfl<|zg rfl rfl<|zg rfl rfl<|z7 rfl rfl c9<|z8 rfl rfl rfl<|z2 (zPf rfl c9 rfl)<|z2 (zPf rfl rfl rfl)<|z2 (zMb rfl)<|z8 rfl rfl rfl<|z2 (zFF underlying56 rfl sizeOf53 rfl rfl)<|z8 rfl rfl rfl<|z2 (zLi isAgg53 rfl)<|z8 rfl rfl rfl<|z2 (y9 rfl rfl)<|z8 rfl rfl rfl<|z2 (zMb rfl)<|zo (s := 146) rfl (fun c14=>?_) (fun c14=>?_)
       ·refine z8 rfl rfl c14<|z2 (zFF underlying56 rfl sizeOf54 rfl rfl)<|z8 rfl rfl c14<|z2 (yx (j := 0) underlying54 sizeOf3 rfl rfl rfl (by decide) rfl)<|z8 rfl rfl c14<|z2 (zLi isAgg3 rfl)<|z8 rfl rfl c14<|z2 (y9 rfl rfl)<|z8 rfl rfl rfl<|z2 (zPt rfl c14 rfl)<|z2 (zPf rfl rfl rfl)<|z6 ?_
        exact ⟨_, zR4, zR1, zLe, by simp_all [termT] <;> omega⟩
       ·refine z7 rfl rfl c14<|z7 rfl rfl c14<|z7 rfl rfl c14<|z7 rfl rfl c14<|z8 rfl rfl rfl<|z2 (zPf rfl c14 rfl)<|z2 (zPf rfl rfl rfl)<|z6 ?_
        exact ⟨_, zR4, zR1, zLe, by simp_all [termT] <;> omega⟩
    ·rintro u hu
     subst hu
     refine zr rfl (fun ct=>?_) (fun ct=>?_)
     ·have dt : termT f b.term = false := by simpa using ct
      refine zSr<|z2 (zAb rfl)<|z6<|zh<|zj (x := .bool _) rfl ?_
      rw [hbad (by unfold blkT; rw [hjall, hkall, dt]; rfl)]
     ·have dt : termT f b.term = true := by simpa using ct
      refine zd<|zRg<|z2 (zAd rfl rfl)<|z2 (zMi rfl)<|z6 ?_
      exact ⟨i + 1, zR3, zR1, zLe, ⟨hi2, all_take hi2 hall (by rw [hbi]; unfold blkT; rw [hjall, hkall, dt]; rfl)⟩, by omega⟩
 ·have hin : i = f.blocks.length := by simp at ci; omega
  rw [hin, qo] at hall
  refine zx<|zSr<|z2 (zAb rfl)<|z6<|zh<|zj (x := .bool _) rfl ?_
  rw [hall]
end Go.Proofs.YtiojekbkamegdaaGreatDoor
namespace Go.Proofs.YtiojekbkamegdaaGreatDoor
open Go.Proofs.Tryz
open Go.Proofs Go.Lib Go.Shelf Go.RowKit
set_option maxRecDepth 20000
variable {E : World}
theorem sum_take {α : Type} (g : α → Nat) : ∀ (l : List α) (k : Nat), ((l.take k).map g).sum ≤ (l.map g).sum
 | [], k => by simp
 | x :: l, 0 => by simp
 | x :: l, k + 1 => by
  have := sum_take g l k
  simp only [List.take_succ_cons, List.map_cons, List.sum_cons]; omega
theorem wP_take (l : List PPhi) (k : Nat) : wP (l.take k) ≤ wP l := sum_take _ l k
theorem wX_take (l : List PInst) (k : Nat) : wX (l.take k) ≤ wX l := sum_take _ l k
theorem little_le {f : PFunc} (h : little f) {k : Nat} (hk : k < f.blocks.length) : wV f.vars + wBs (f.blocks.take k) + wB f.blocks[k] ≤ 4000 := by
 have h1 := h.2.2.2.2.2 (fun e => by rw [e] at hk; exact absurd hk (Nat.not_lt_zero _))
 have h2 : wBs (f.blocks.take (k + 1)) ≤ wBs f.blocks := sum_take _ f.blocks (k + 1)
 rw [wBs_succ hk] at h2
 omega
set_option maxHeartbeats 8000000 in
theorem fewIff_spec (f : PFunc) (hf : wFunc f) : ACall prog E 11 [.agg (encF f)] [] (fun x _ => ∃ b : Bool, x = .bool b ∧ (b = true ↔ little f)) := by
 obtain ⟨hf1, hf2, hf3, hf4⟩ := hf
 have hl1 := hf1.lt
 have hl3 := hf3.lt
 refine zn func11 rfl (by decide) rfl<|zSr<|yd (cs := _) rfl rfl rfl<|z2 (zAb rfl)<|z6<|za<|za<|yp (γ := Unit) [1] (fun u => [(27, .bool (few1 f))]) (fun u => []) (fun u => True) ?_ (fun _ _ h => h) ?_
 ·refine zRg<|z2 (zFF underlying26 rfl sizeOf22 rfl rfl)<|z2 (zLf isAgg22 rfl)<|z2 (zu underlying22 rfl)<|z2 (q3 rfl rfl)<|z2 (zMb rfl)<|zo (s := 16) rfl (fun c1=>?_) (fun c1=>?_)
  ·refine z7 rfl rfl c1<|z7 rfl rfl c1<|z7 rfl rfl c1<|z7 rfl rfl c1<|z2 (zPt rfl c1 rfl)<|z2 (zMb rfl)<|z7 rfl rfl rfl<|z7 rfl rfl rfl<|z7 rfl rfl rfl<|z7 rfl rfl rfl<|z2 (zPt rfl rfl rfl)<|z6 ?_
   exact ⟨(), zR1, ⟨jb (by simp_all [few1] <;> grind), trivial⟩, zLe, trivial⟩
  ·refine z8 rfl rfl c1<|z2 (zFF underlying26 rfl sizeOf24 rfl rfl)<|z8 rfl rfl c1<|z2 (zLf isAgg24 rfl)<|z8 rfl rfl c1<|z2 (zu underlying24 rfl)<|z8 rfl rfl c1<|z2 (q3 rfl rfl)<|z2 (zPf rfl c1 rfl)<|z2 (zMb rfl)<|zo (s := 22) rfl (fun c2=>?_) (fun c2=>?_)
   ·refine z7 rfl rfl c2<|z7 rfl rfl c2<|z7 rfl rfl c2<|z7 rfl rfl c2<|z2 (zPt rfl c2 rfl)<|z6 ?_
    exact ⟨(), zR1, ⟨jb (by simp_all [few1] <;> grind), trivial⟩, zLe, trivial⟩
   ·refine z8 rfl rfl c2<|z2 (zFF underlying26 rfl sizeOf23 rfl rfl)<|z8 rfl rfl c2<|z2 (zLf isAgg23 rfl)<|z8 rfl rfl c2<|z2 (zu underlying23 rfl)<|z8 rfl rfl c2<|z2 (q3 rfl rfl)<|z2 (zPf rfl c2 rfl)<|z6 ?_
    exact ⟨(), zR1, ⟨jb (by simp_all [few1] <;> grind), trivial⟩, zLe, trivial⟩
 ·rintro _ _
  refine zr rfl (fun c1=>?_) (fun c1=>?_)
  ·refine zSr<|z2 (zAb rfl)<|z6<|zh<|zj (x := .bool _) rfl ?_
   exact ⟨_, rfl, fun h => (by cases h), fun hl => absurd hl (fun hl => by have h1 := hl.1; have h2 := hl.2.1; have h3 := hl.2.2.1; unfold few1 at c1; simp at c1; omega)⟩
  ·have hsz : f.vars.length ≤ 100 ∧ f.blocks.length ≤ 40 ∧ f.params.length ≤ 20 := by unfold few1 at c1; simp at c1; omega
   refine zd<|zSr<|z2 (zAi rfl)<|z6<|za<|zSr<|z2 (zFF underlying26 rfl sizeOf22 rfl rfl)<|z2 (zLf isAgg22 rfl)<|z2 (zu underlying22 rfl)<|z2 (zMi rfl)<|z6<|zf<|zz (γ := Nat) [1, 29, 30] (fun k => [(31, .int .i64 k), (3, .int .i64 (wV (f.vars.take k)))]) (fun k => []) (fun k => k ≤ f.vars.length ∧ wV (f.vars.take k) ≤ 400 * k ∧ ∀ v ∈ f.vars.take k, v.name.size ≤ 400) (fun k => f.vars.length - k) 0 zR2 zLe (⟨qm _, Nat.le_refl _, by simp⟩) ?_
   rintro k ⟨hk, hw, hv⟩
   refine zSr<|z2 (yc rfl rfl)<|z6<|za<|zp rfl (fun ck=>?_) (fun ck=>?_)
   ·have hk1 : k < f.vars.length := by omega
    have hs := wV_succ hk1
    refine zd<|za<|zf<|zSr<|z2 (yr underlying22 sizeOf79 rfl rfl rfl (qj (by omega)))<|z2 (zl isAgg79 sizeOf79 rfl rfl)<|y4 (cs := [.str ⟨#[]⟩, .int .i64 0]) zeroValue79 rfl rfl<|fun i5 => zw sizeOf79 rfl rfl rfl rfl rfl rfl .head rfl<|z6<|za<|zSr<|z2 (zi underlying79 rfl sizeOf9 (by decide) rfl rfl)<|z2 (zm (c := .str _) isAgg9 rfl ⟨_, .head⟩ rfl)<|z2 (Gv.lenT underlying9 rfl)<|z2 (q3 rfl rfl)<|z6<|zp rfl (fun cn=>?_) (fun cn=>?_)
    ·refine zSr<|z2 (zAb rfl)<|z6<|zh<|zj (x := .bool _) rfl ?_
     exact ⟨_, rfl, fun h => (by cases h), fun hl => absurd hl (fun hl => by have h1 := hl.2.2.2.1 _ (qn hk1); omega)⟩
    ·refine zd<|zRg<|z2 (zMi rfl)<|z2 (zi underlying79 rfl sizeOf9 (by decide) rfl rfl)<|z2 (zm (c := .str _) isAgg9 rfl ⟨_, .head⟩ rfl)<|z2 (Gv.lenT underlying9 rfl)<|z2 (zAd rfl rfl)<|z2 (zAi rfl)<|z6<|zRg<|z2 (zAd rfl rfl)<|z2 (zMi rfl)<|z6 ?_
     exact ⟨k + 1, zR3, ⟨rfl, congrArg (AV.int .i64) (by rw [hs]; omega), trivial⟩, ⟨_, (.drop (.refl _)), rfl⟩, ⟨hk1, by omega, forall_take hk1 hv (by omega)⟩, by omega⟩
   ·obtain rfl : k = f.vars.length := by omega
    rw [qo] at hw hv
    rw [qo]
    refine zx<|za<|zSr<|z2 (zFF underlying26 rfl sizeOf24 rfl rfl)<|z2 (zLf isAgg24 rfl)<|z2 (zu underlying24 rfl)<|z2 (zMi rfl)<|z6<|zf<|zz (γ := Nat) [46, 47] (fun k => [(48, .int .i64 k), (3, .int .i64 (wV f.vars + wBs (f.blocks.take k) : Nat))]) (fun k => []) (fun k => k ≤ f.blocks.length ∧ (0 < k → wV f.vars + wBs (f.blocks.take k) ≤ 4000) ∧ wBs (f.blocks.take k) ≤ 4000 ∧ ∀ b ∈ f.blocks.take k, littleB b) (fun k => f.blocks.length - k) 0 zR2 zLe (⟨qm _, by omega, by simp [wBs], by simp⟩) ?_
    rintro k ⟨hk, hw2, hw3, hb⟩
    refine zSr<|z2 (yc rfl rfl)<|z6<|za<|zp rfl (fun ck=>?_) (fun ck=>?_)
    ·have hk1 : k < f.blocks.length := by omega
     obtain ⟨hb1, hb2, hb3, hb4⟩ := hf4 _ (qn hk1)
     have hs := wBs_succ hk1
     refine zd<|za<|zf<|zSr<|z2 (yr underlying24 sizeOf58 rfl rfl rfl (qj (by omega)))<|z2 (zl isAgg58 sizeOf58 rfl rfl)<|y4 (cs := [.str ⟨#[]⟩, .raw (.slice none 0 0), .raw (.slice none 0 0), .int .i64 0, .int .i64 0, .int .i64 0, .int .i64 0]) zeroValue58 rfl rfl<|fun i7 => zw sizeOf58 rfl rfl rfl rfl rfl rfl .head rfl<|z6<|za<|za<|yp (γ := Unit) [3, 7, 46, 47, 48] (fun u => [(67, .bool (few2 f.blocks[k]))]) (fun u => [(i7, .cells 58 (encBlk f.blocks[k]))]) (fun u => True) ?_ (fun _ _ h => h) ?_
     ·refine zRg<|z2 (zi underlying58 rfl sizeOf9 (by decide) rfl rfl)<|z2 (zm (c := .str _) isAgg9 rfl ⟨_, .head⟩ rfl)<|z2 (Gv.lenT underlying9 rfl)<|z2 (q3 rfl rfl)<|z2 (zMb rfl)<|zo (s := 56) rfl (fun c3=>?_) (fun c3=>?_)
      ·refine z7 rfl rfl c3<|z7 rfl rfl c3<|z7 rfl rfl c3<|z7 rfl rfl c3<|z2 (zPt rfl c3 rfl)<|z2 (zMb rfl)<|z7 rfl rfl rfl<|z7 rfl rfl rfl<|z7 rfl rfl rfl<|z7 rfl rfl rfl<|z2 (zPt rfl rfl rfl)<|z6 ?_
       exact ⟨(), zR5, ⟨jb (by simp_all [few2] <;> grind), trivial⟩, zLe, trivial⟩
      ·refine z8 rfl rfl c3<|z2 (zi underlying58 rfl sizeOf51 (by decide) rfl rfl)<|z8 rfl rfl c3<|z2 (zm (c := .fro _ _) isAgg51 rfl ⟨_, .head⟩ rfl)<|z8 rfl rfl c3<|z2 (zu underlying51 rfl)<|z8 rfl rfl c3<|z2 (q3 rfl rfl)<|z2 (zPf rfl c3 rfl)<|z2 (zMb rfl)<|zo (s := 62) rfl (fun c4=>?_) (fun c4=>?_)
       ·refine z7 rfl rfl c4<|z7 rfl rfl c4<|z7 rfl rfl c4<|z7 rfl rfl c4<|z2 (zPt rfl c4 rfl)<|z6 ?_
        exact ⟨(), zR5, ⟨jb (by simp_all [few2] <;> grind), trivial⟩, zLe, trivial⟩
       ·refine z8 rfl rfl c4<|z2 (zi underlying58 rfl sizeOf52 (by decide) rfl rfl)<|z8 rfl rfl c4<|z2 (zm (c := .fro _ _) isAgg52 rfl ⟨_, .head⟩ rfl)<|z8 rfl rfl c4<|z2 (zu underlying52 rfl)<|z8 rfl rfl c4<|z2 (q3 rfl rfl)<|z2 (zPf rfl c4 rfl)<|z6 ?_
        exact ⟨(), zR5, ⟨jb (by simp_all [few2] <;> grind), trivial⟩, zLe, trivial⟩
     ·rintro _ _
      refine zr rfl (fun c2=>?_) (fun c2=>?_)
      ·refine zSr<|z2 (zAb rfl)<|z6<|zh<|zj (x := .bool _) rfl ?_
       exact ⟨_, rfl, fun h => (by cases h), fun hl => absurd hl (fun hl => by obtain ⟨h1, h2, h3, _⟩ := hl.2.2.2.2.1 _ (qn hk1); unfold few2 at c2; simp at c2; omega)⟩
      ·have hsb : f.blocks[k].name.size ≤ 400 ∧ f.blocks[k].phis.length ≤ 400 ∧ f.blocks[k].insts.length ≤ 400 := by unfold few2 at c2; simp at c2; omega
       refine zd<|zSr<|z2 (zMi rfl)<|z2 (zi underlying58 rfl sizeOf9 (by decide) rfl rfl)<|z2 (zm (c := .str _) isAgg9 rfl ⟨_, .head⟩ rfl)<|z2 (Gv.lenT underlying9 rfl)<|z2 (zi underlying58 rfl sizeOf51 (by decide) rfl rfl)<|z2 (zm (c := .fro _ _) isAgg51 rfl ⟨_, .head⟩ rfl)<|z2 (zu underlying51 rfl)<|z2 (zi underlying58 rfl sizeOf52 (by decide) rfl rfl)<|z2 (zm (c := .fro _ _) isAgg52 rfl ⟨_, .head⟩ rfl)<|z2 (zu underlying52 rfl)<|z2 (zAd rfl rfl)<|z2 (Gv.mul rfl rfl (by unfold I64; omega))<|z2 (zAd rfl rfl)<|z2 (zAd rfl rfl)<|z2 (zAi rfl)<|z6<|za<|zSr<|z2 (zi underlying58 rfl sizeOf51 (by decide) rfl rfl)<|z2 (zm (c := .fro _ _) isAgg51 rfl ⟨_, .head⟩ rfl)<|z2 (zu underlying51 rfl)<|z2 (zMi rfl)<|z6<|zf<|zz (γ := Nat) [7, 46, 47, 48, 83, 84] (fun m => [(85, .int .i64 m), (3, .int .i64 (wV f.vars + wBs (f.blocks.take k) + (f.blocks[k].name.size + 10 * (f.blocks[k].phis.length + f.blocks[k].insts.length)) + wP (f.blocks[k].phis.take m) : Nat))]) (fun m => [(i7, .cells 58 (encBlk f.blocks[k]))]) (fun m => m ≤ f.blocks[k].phis.length ∧ wP (f.blocks[k].phis.take m) ≤ 800 * m ∧ ∀ p ∈ f.blocks[k].phis.take m, p.args.length ≤ 400 ∧ p.from_.length ≤ 400) (fun m => f.blocks[k].phis.length - m) 0 ⟨rfl, (congrArg (AV.int .i64) (by simp [wP] <;> omega)), trivial⟩ zLe (⟨qm _, by simp [wP], by simp⟩) ?_
       rintro m ⟨hm, hwp, hp⟩
       refine zSr<|z2 (yc rfl rfl)<|z6<|za<|zp rfl (fun cm=>?_) (fun cm=>?_)
       ·have hm1 : m < f.blocks[k].phis.length := by omega
        obtain ⟨hq1, hq2⟩ := hb3 _ (qn hm1)
        have hl6 := hq1.lt
        have hl7 := hq2.lt
        have hs2 := wP_succ hm1
        refine zd<|za<|zf<|zSr<|z2 (yr underlying51 sizeOf81 rfl rfl rfl (qj (by omega)))<|z2 (zl isAgg81 sizeOf81 rfl rfl)<|y4 (cs := [.int .i64 0, .raw (.slice none 0 0), .raw (.slice none 0 0)]) zeroValue81 rfl rfl<|fun i9 => zw sizeOf81 rfl rfl rfl rfl rfl rfl .head rfl<|z6<|za<|za<|yp (γ := Unit) [3, 7, 9, 46, 47, 48, 83, 84, 85] (fun u => [(102, .bool (decide ((4000 : Int) < (wV f.vars + wBs (f.blocks.take k) + (f.blocks[k].name.size + 10 * (f.blocks[k].phis.length + f.blocks[k].insts.length)) + wP (f.blocks[k].phis.take m) : Nat)) || (decide ((400 : Int) < f.blocks[k].phis[m].args.length) || decide ((400 : Int) < f.blocks[k].phis[m].from_.length))))]) (fun u => [(i9, .cells 81 (encPhi f.blocks[k].phis[m])), (i7, .cells 58 (encBlk f.blocks[k]))]) (fun u => True) ?_ (fun _ _ h => h) ?_
        ·refine zRg<|z2 (zMi rfl)<|z2 (q3 rfl rfl)<|z2 (zMb rfl)<|zo (s := 91) rfl (fun c5=>?_) (fun c5=>?_)
         ·refine z7 rfl rfl c5<|z7 rfl rfl c5<|z7 rfl rfl c5<|z7 rfl rfl c5<|z2 (zPt rfl c5 rfl)<|z2 (zMb rfl)<|z7 rfl rfl rfl<|z7 rfl rfl rfl<|z7 rfl rfl rfl<|z7 rfl rfl rfl<|z2 (zPt rfl rfl rfl)<|z6 ?_
          exact ⟨(), zR9, ⟨jb (by simp_all <;> grind), trivial⟩, zLe, trivial⟩
         ·refine z8 rfl rfl c5<|z2 (zi underlying81 rfl sizeOf23 (by decide) rfl rfl)<|z8 rfl rfl c5<|z2 (zm (c := .fro _ _) isAgg23 rfl ⟨_, .head⟩ rfl)<|z8 rfl rfl c5<|z2 (zu underlying23 rfl)<|z8 rfl rfl c5<|z2 (q3 rfl rfl)<|z2 (zPf rfl c5 rfl)<|z2 (zMb rfl)<|zo (s := 97) rfl (fun c6=>?_) (fun c6=>?_)
          ·refine z7 rfl rfl c6<|z7 rfl rfl c6<|z7 rfl rfl c6<|z7 rfl rfl c6<|z2 (zPt rfl c6 rfl)<|z6 ?_
           exact ⟨(), zR9, ⟨jb (by simp_all <;> grind), trivial⟩, zLe, trivial⟩
          ·refine z8 rfl rfl c6<|z2 (zi underlying81 rfl sizeOf23 (by decide) rfl rfl)<|z8 rfl rfl c6<|z2 (zm (c := .fro _ _) isAgg23 rfl ⟨_, .head⟩ rfl)<|z8 rfl rfl c6<|z2 (zu underlying23 rfl)<|z8 rfl rfl c6<|z2 (q3 rfl rfl)<|z2 (zPf rfl c6 rfl)<|z6 ?_
           exact ⟨(), zR9, ⟨jb (by simp_all <;> grind), trivial⟩, zLe, trivial⟩
        ·rintro _ _
         refine zr rfl (fun cp=>?_) (fun cp=>?_)
         ·refine zSr<|z2 (zAb rfl)<|z6<|zh<|zj (x := .bool _) rfl ?_
          exact ⟨_, rfl, fun h => (by cases h), fun hl => absurd hl (fun hl => by obtain ⟨_, _, _, h4, _⟩ := hl.2.2.2.2.1 _ (qn hk1); have h5 := h4 _ (qn hm1); have h9 := little_le hl hk1; have hwb : wB f.blocks[k] = f.blocks[k].name.size + 10 * (f.blocks[k].phis.length + f.blocks[k].insts.length) + wP f.blocks[k].phis + wX f.blocks[k].insts := rfl; have h10 := wP_take f.blocks[k].phis m; simp only [Bool.or_eq_true, qz] at cp; omega)⟩
         ·rcases Bool.or_eq_false_iff.1 cp with ⟨a1, a2⟩
          rcases Bool.or_eq_false_iff.1 a2 with ⟨a3, a4⟩
          have a3 := of_decide_eq_false a3
          have a4 := of_decide_eq_false a4
          refine zd<|zRg<|z2 (zMi rfl)<|z2 (zi underlying81 rfl sizeOf23 (by decide) rfl rfl)<|z2 (zm (c := .fro _ _) isAgg23 rfl ⟨_, .head⟩ rfl)<|z2 (zu underlying23 rfl)<|z2 (zi underlying81 rfl sizeOf23 (by decide) rfl rfl)<|z2 (zm (c := .fro _ _) isAgg23 rfl ⟨_, .head⟩ rfl)<|z2 (zu underlying23 rfl)<|z2 (zAd rfl rfl)<|z2 (zAd rfl rfl)<|z2 (zAi rfl)<|z6<|zRg<|z2 (zAd rfl rfl)<|z2 (zMi rfl)<|z6 ?_
          exact ⟨m + 1, zR6, ⟨rfl, congrArg (AV.int .i64) (by rw [hs2]; omega), trivial⟩, ⟨_, (.drop (.refl _)), rfl⟩, ⟨hm1, by omega, forall_take hm1 hp ⟨by omega, by omega⟩⟩, by omega⟩
       ·obtain rfl : m = f.blocks[k].phis.length := by omega
        rw [qo] at hwp hp
        rw [qo]
        refine zx<|za<|zSr<|z2 (zi underlying58 rfl sizeOf52 (by decide) rfl rfl)<|z2 (zm (c := .fro _ _) isAgg52 rfl ⟨_, .head⟩ rfl)<|z2 (zu underlying52 rfl)<|z2 (zMi rfl)<|z6<|zf<|zz (γ := Nat) [46, 47, 48, 114, 115] (fun m => [(116, .int .i64 m), (3, .int .i64 (wV f.vars + wBs (f.blocks.take k) + (f.blocks[k].name.size + 10 * (f.blocks[k].phis.length + f.blocks[k].insts.length)) + wP f.blocks[k].phis + wX (f.blocks[k].insts.take m) : Nat))]) (fun m => [(i7, .cells 58 (encBlk f.blocks[k]))]) (fun m => m ≤ f.blocks[k].insts.length ∧ wX (f.blocks[k].insts.take m) ≤ 400 * m ∧ ∀ p ∈ f.blocks[k].insts.take m, p.args.length ≤ 400) (fun m => f.blocks[k].insts.length - m) 0 ⟨rfl, (congrArg (AV.int .i64) (by simp [wX] <;> omega)), trivial⟩ zLe (⟨qm _, by simp [wX], by simp⟩) ?_
        rintro m ⟨hm, hwx, hx⟩
        refine zSr<|z2 (yc rfl rfl)<|z6<|za<|zp rfl (fun cm=>?_) (fun cm=>?_)
        ·have hm1 : m < f.blocks[k].insts.length := by omega
         have hq1 := hb4 _ (qn hm1)
         have hl6 := hq1.lt
         have hs2 := wX_succ hm1
         refine zd<|za<|zf<|zSr<|z2 (yr underlying52 sizeOf61 rfl rfl rfl (qj (by omega)))<|z2 (zl isAgg61 sizeOf61 rfl rfl)<|y4 (cs := [.int .i64 0, .int .i64 0, .raw (.slice none 0 0), .int .i64 0]) zeroValue61 rfl rfl<|fun i11 => zw sizeOf61 rfl rfl rfl rfl rfl rfl .head rfl<|z6<|za<|za<|yp (γ := Unit) [3, 11, 46, 47, 48, 114, 115, 116] (fun u => [(127, .bool (decide ((4000 : Int) < (wV f.vars + wBs (f.blocks.take k) + (f.blocks[k].name.size + 10 * (f.blocks[k].phis.length + f.blocks[k].insts.length)) + wP f.blocks[k].phis + wX (f.blocks[k].insts.take m) : Nat)) || decide ((400 : Int) < f.blocks[k].insts[m].args.length)))]) (fun u => [(i11, .cells 61 (encInst f.blocks[k].insts[m])), (i7, .cells 58 (encBlk f.blocks[k]))]) (fun u => True) ?_ (fun _ _ h => h) ?_
         ·refine zRg<|z2 (zMi rfl)<|z2 (q3 rfl rfl)<|z2 (zMb rfl)<|zo (s := 122) rfl (fun c7=>?_) (fun c7=>?_)
          ·refine z7 rfl rfl c7<|z7 rfl rfl c7<|z7 rfl rfl c7<|z7 rfl rfl c7<|z2 (zPt rfl c7 rfl)<|z6 ?_
           exact ⟨(), zR8, ⟨jb (by simp_all <;> grind), trivial⟩, zLe, trivial⟩
          ·refine z8 rfl rfl c7<|z2 (zi underlying61 rfl sizeOf23 (by decide) rfl rfl)<|z8 rfl rfl c7<|z2 (zm (c := .fro _ _) isAgg23 rfl ⟨_, .head⟩ rfl)<|z8 rfl rfl c7<|z2 (zu underlying23 rfl)<|z8 rfl rfl c7<|z2 (q3 rfl rfl)<|z2 (zPf rfl c7 rfl)<|z6 ?_
           exact ⟨(), zR8, ⟨jb (by simp_all <;> grind), trivial⟩, zLe, trivial⟩
         ·rintro _ _
          refine zr rfl (fun cp=>?_) (fun cp=>?_)
          ·refine zSr<|z2 (zAb rfl)<|z6<|zh<|zj (x := .bool _) rfl ?_
           exact ⟨_, rfl, fun h => (by cases h), fun hl => absurd hl (fun hl => by obtain ⟨_, _, _, _, h4⟩ := hl.2.2.2.2.1 _ (qn hk1); have h5 := h4 _ (qn hm1); have h9 := little_le hl hk1; have hwb : wB f.blocks[k] = f.blocks[k].name.size + 10 * (f.blocks[k].phis.length + f.blocks[k].insts.length) + wP f.blocks[k].phis + wX f.blocks[k].insts := rfl; have h10 := wX_take f.blocks[k].insts m; simp only [Bool.or_eq_true, qz] at cp; omega)⟩
          ·rcases Bool.or_eq_false_iff.1 cp with ⟨a1, a2⟩
           have a2 := of_decide_eq_false a2
           refine zd<|zRg<|z2 (zMi rfl)<|z2 (zi underlying61 rfl sizeOf23 (by decide) rfl rfl)<|z2 (zm (c := .fro _ _) isAgg23 rfl ⟨_, .head⟩ rfl)<|z2 (zu underlying23 rfl)<|z2 (zAd rfl rfl)<|z2 (zAi rfl)<|z6<|zRg<|z2 (zAd rfl rfl)<|z2 (zMi rfl)<|z6 ?_
           exact ⟨m + 1, zR5, ⟨rfl, congrArg (AV.int .i64) (by rw [hs2]; omega), trivial⟩, ⟨_, (.drop (.refl _)), rfl⟩, ⟨hm1, by omega, forall_take hm1 hx (by omega)⟩, by omega⟩
        ·obtain rfl : m = f.blocks[k].insts.length := by omega
         rw [qo] at hwx hx
         rw [qo]
         refine zx<|zSr<|z2 (zMi rfl)<|z2 (q3 rfl rfl)<|z6<|zp rfl (fun cz=>?_) (fun cz=>?_)
         ·refine zSr<|z2 (zAb rfl)<|z6<|zh<|zj (x := .bool _) rfl ?_
          exact ⟨_, rfl, fun h => (by cases h), fun hl => absurd hl (fun hl => by have h9 := little_le hl hk1; have hwb : wB f.blocks[k] = f.blocks[k].name.size + 10 * (f.blocks[k].phis.length + f.blocks[k].insts.length) + wP f.blocks[k].phis + wX f.blocks[k].insts := rfl; omega)⟩
         ·have hwb : wB f.blocks[k] = f.blocks[k].name.size + 10 * (f.blocks[k].phis.length + f.blocks[k].insts.length) + wP f.blocks[k].phis + wX f.blocks[k].insts := rfl
          refine zd<|zRg<|z2 (zAd rfl rfl)<|z2 (zMi rfl)<|z6 ?_
          exact ⟨k + 1, zR2, ⟨rfl, congrArg (AV.int .i64) (by rw [hs]; omega), trivial⟩, ⟨_, (.drop (.refl _)), rfl⟩, ⟨hk1, by omega, by omega, forall_take hk1 hb ⟨hsb.1, hsb.2.1, hsb.2.2, hp, hx⟩⟩, by omega⟩
    ·obtain rfl : k = f.blocks.length := by omega
     rw [qo] at hw2 hw3 hb
     refine zx<|zSr<|z2 (zAb rfl)<|z6<|zh<|zj (x := .bool _) rfl ?_
     exact ⟨_, rfl, fun _ => ⟨hsz.1, hsz.2.1, hsz.2.2, hv, hb, fun hne => hw2 (List.length_pos_iff.2 hne)⟩, fun _ => rfl⟩
theorem lawShaped2_spec (f : PFunc) (hf : okFunc f) (hn : okNames f) (hL : Letters E) : AFun prog E 49 [.agg (encF f)] (.bool (decide (ShapedP f))) := by
 refine zn func49 rfl (by decide) rfl<|zSr<|yd (cs := _) rfl rfl rfl<|z2 (zAb rfl)<|z6<|zSr<|z2 (zl isAgg26 sizeOf26 rfl rfl)<|zk (refShaped_spec _ (by assumption) (by assumption) hL) rfl<|z2 (zAb rfl)<|z6<|zh<|zj (x := .bool _) rfl ?_
 rfl
noncomputable def fewB (f : PFunc) : Bool := @decide (little f) (Classical.propDecidable _)
theorem fewB_iff (f : PFunc) : fewB f = true ↔ little f := by unfold fewB; exact @decide_eq_true_iff _ (Classical.propDecidable _)
theorem fewT_spec (f : PFunc) (hf : wFunc f) : AFun prog E 11 [.agg (encF f)] (.bool (fewB f)) :=
 (fewIff_spec f hf).mono fun x O' ⟨b, e, h⟩ => by
  rw [e]
  congr 1
  rw [Bool.eq_iff_iff, h, fewB_iff]
theorem lawTyped8_spec (f : PFunc) (hf : small f) (hL : Letters E) : AFun prog E 18 [.agg (encF f)] (.bool (typedB f)) := by
 have hs := lawShaped2_spec (E := E) f hf.ok hf.names hL
 refine zn func18 rfl (by decide) rfl<|zSr<|yd (cs := _) rfl rfl rfl<|z2 (zAb rfl)<|z6<|zSr<|z2 (zl isAgg26 sizeOf26 rfl rfl)<|zk (hs) rfl ?_
 by_cases g4 : ShapedP f
 ·refine z2 (zMb rfl)<|z8 rfl rfl (qv g4)<|z2 (zl isAgg26 sizeOf26 rfl rfl)<|z8 rfl rfl (qv g4)<|zk (refTyped_spec f hf g4) rfl<|z2 (zPt rfl (qv g4) rfl)<|z2 (zAb rfl)<|z6<|zh<|zj (x := .bool _) rfl ?_
  exact jb (by unfold typedB; rw [shapedB_eq, qv g4]; rfl)
 ·refine z2 (zMb rfl)<|z7 rfl rfl (qw g4)<|z7 rfl rfl (qw g4)<|z2 (zPf rfl (qw g4) rfl)<|z2 (zAb rfl)<|z6<|zh<|zj (x := .bool _) rfl ?_
  exact jb (by unfold typedB; rw [shapedB_eq, qw g4]; rfl)
theorem lawTyped_spec (f : PFunc) (hw : wFunc f) (hL : Letters E) : AFun prog E 44 [.agg (encF f)] (.bool (fewB f && typedB f)) := by
 refine zn func44 rfl (by decide) rfl<|zSr<|yd (cs := _) rfl rfl rfl<|z2 (zAb rfl)<|z6<|zSr<|z2 (zl isAgg26 sizeOf26 rfl rfl)<|zk (fewT_spec f hw) rfl<|z2 (zMb rfl)<|zo (s := 5) rfl (fun g=>?_) (fun g=>?_)
 ·refine z8 rfl rfl g<|z2 (zl isAgg26 sizeOf26 rfl rfl)<|z8 rfl rfl g<|zk (lawTyped8_spec f ((fewB_iff f).1 g).small hL) rfl<|z2 (zPt rfl g rfl)<|z2 (zAb rfl)<|z6<|zh<|zj (x := .bool _) rfl ?_
  exact jb (by rw [g]; rfl)
 ·refine z7 rfl rfl g<|z7 rfl rfl g<|z2 (zPf rfl g rfl)<|z2 (zAb rfl)<|z6<|zh<|zj (x := .bool _) rfl ?_
  exact jb (by rw [g]; rfl)
noncomputable def lawSing (f : PFunc) : Bool := fewB f && typedB f && singB f
theorem and3 {a b : Bool} (h : (a && b) = true) : a = true ∧ b = true := by simpa using h
theorem singR_typed {f : PFunc} (h : typedB f = true) : singR f = singB f :=
 singR_eq (typedB_ends h) fun b hb p hp c hc => by
  have h1 := ((typedB_shaped h).2.2.2.2.2 b hb).1 p hp
  have h2 := List.all_eq_true.1 h1.2.2.2.2 c hc
  simpa [hasB] using h2
theorem lawSingle_spec (f : PFunc) (hw : wFunc f) (hL : Letters E) : AFun prog E 13 [.agg (encF f)] (.bool (lawSing f)) := by
 refine zn func13 rfl (by decide) rfl<|zSr<|yd (cs := _) rfl rfl rfl<|z2 (zAb rfl)<|z6<|zSr<|z2 (zl isAgg26 sizeOf26 rfl rfl)<|zk (lawTyped_spec f hw hL) rfl<|z2 (zMb rfl)<|zo (s := 5) rfl (fun g=>?_) (fun g=>?_)
 ·refine z8 rfl rfl g<|z2 (zl isAgg26 sizeOf26 rfl rfl)<|z8 rfl rfl g<|zk (refSingle_spec f (typedB_ends (and3 g).2) ((fewB_iff f).1 (and3 g).1).small (typedB_shaped (and3 g).2)) rfl<|z2 (zPt rfl g rfl)<|z2 (zAb rfl)<|z6<|zh<|zj (x := .bool _) rfl ?_
  exact jb (by unfold lawSing; rw [g, singR_typed (and3 g).2]; rfl)
 ·refine z7 rfl rfl g<|z7 rfl rfl g<|z2 (zPf rfl g rfl)<|z2 (zAb rfl)<|z6<|zh<|zj (x := .bool _) rfl ?_
  exact jb (by unfold lawSing; rw [g]; rfl)
end Go.Proofs.YtiojekbkamegdaaGreatDoor
namespace Go.Proofs.YtiojekbkamegdaaGreatDoor
open Go.Proofs.Tryz
end Go.Proofs.YtiojekbkamegdaaGreatDoor
namespace Go.Proofs.YtiojekbkamegdaaGreatDoor
open Go.Proofs.Tryz
open Go.Proofs Go.Lib Go.Shelf Go.RowKit
variable {E : World}
set_option maxRecDepth 20000
end Go.Proofs.YtiojekbkamegdaaGreatDoor
namespace Go.Proofs.YtiojekbkamegdaaGreatDoor
open Go.Proofs.Tryz
open Go.Proofs Go.Lib Go.Shelf Go.RowKit
theorem pl61 : Places prog 61 #[(0, 1), (1, 1), (2, 1), (3, 1)] [.int .i64 0, .int .i64 0, .raw (.slice none 0 0), .int .i64 0] := ⟨_, _, underlying61, zeroValue61, fun w => by kernel_rfl, rfl⟩
variable {E : World}
set_option maxRecDepth 20000
end Go.Proofs.YtiojekbkamegdaaGreatDoor
