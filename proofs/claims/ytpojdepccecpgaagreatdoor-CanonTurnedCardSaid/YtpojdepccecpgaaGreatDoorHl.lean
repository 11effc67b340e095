/- The first check of a block, how it comes from another one, whether it was passed: the program's. Of programs that are little. -/
import Derived.Test.YtpojdepccecpgaaGreatDoorHk
import Derived.Test.YtpojdepccecpgaaGreatDoorHh
import Derived.Test.YtpojdepccecpgaaGreatDoorHj
set_option linter.unusedVariables false
set_option linter.unusedSimpArgs false
set_option linter.unusedSectionVars false
namespace Go.Proofs.YtpojdepccecpgaaGreatDoor
open Go.Proofs.Tryz
open Go.Proofs Go.Lib Go.Shelf Go.RowKit
variable {E : World}
set_option maxRecDepth 20000
theorem want_1 {f : PFunc} {x : PInst} {m : Nat} (e : x.op = 1) (h : m < (wantL f x).length) : (wantL f x)[m] = kindV f x.dst := by
 have h2 : (wantL f x)[m]? = some (kindV f x.dst) := by
  unfold wantL at h ⊢
  rw [if_pos e] at h ⊢
  simp at h
  subst h; rfl
 rw [qa h] at h2
 exact Option.some.inj h2
theorem want_2 {f : PFunc} {x : PInst} {m : Nat} (e : ¬ x.op = 1) (h : m < (wantL f x).length) (h' : m < (takesL x.op).length) : (wantL f x)[m] = (takesL x.op)[m] := by
 have h2 : (wantL f x)[m]? = some ((takesL x.op)[m]) := by
  unfold wantL
  rw [if_neg e, qa h']
 rw [qa h] at h2
 exact Option.some.inj h2
theorem term_kind {f : PFunc} {t : PTerm} (h : termOK f t = true) : t.kind = 0 ∨ t.kind = 1 ∨ t.kind = 2 := by
 unfold termOK at h
 by_cases h0 : t.kind = 0
 ·exact .inl h0
 ·rw [if_neg h0] at h
  by_cases h1 : t.kind = 1
  ·exact .inr (.inl h1)
  ·rw [if_neg h1] at h
   by_cases h2 : t.kind = 2
   ·exact .inr (.inr h2)
   ·rw [if_neg h2] at h; cases h
set_option maxHeartbeats 8000000 in
theorem refTyped_spec (f : PFunc) (hf : small f) (hS : ShapedP f) : AFun prog E 39 [.agg (encF f)] (.bool (f.blocks.all (blkT f))) := by
 have hn := hf.2.2.1
 refine zt func39 Z (by decide) Z<|zSr<|yc (cs := _) Z Z Z<|zVzAb Z<|z6<|ze<|zSr<|zVzFF jd Z jw Z Z<|zVzLf Z3 Z<|zVGvlenM jc Z<|zVzMi Z<|z6<|zi<|y7 (γ := Nat) [1, 16, 17] (fun i => [(18, .int .i64 i)]) (fun i => []) (fun i => i ≤ f.blocks.length ∧ (f.blocks.take i).all (blkT f) = true) (fun i => f.blocks.length - i) 0 zR1 zLe (⟨qd _, Z⟩) ?_
 rintro i ⟨hi, hall⟩
 refine zSr<|zVGvlss Z Z<|z6<|ze<|y2 Z (fun ci=>?_) (fun ci=>?_)
 ·have hi2 : i < f.blocks.length := by simp at ci; omega
  obtain ⟨b, hbi⟩ : ∃ b, f.blocks[i] = b := ⟨_, rfl⟩
  have hget : f.blocks[i]? = some b := by rw [qa hi2, hbi]
  have hmem : b ∈ f.blocks := hbi ▸ qe hi2
  obtain ⟨hb0, hb1, hb2, hb3, hb4⟩ := hf.2.2.2.2 b hmem
  obtain ⟨hPh, hIn, hTm⟩ := hS.2.2.2.2.2 b hmem
  have hbad : blkT f b = false → f.blocks.all (blkT f) = false := fun h => Bool.eq_false_iff.2 (all_bad hi2 (by rw [hbi]; exact h))
  refine zj<|ze<|zi<|zSr<|z8 (zIM i jc jm Z Z Z hget)<|zVGvloadWF Ze jm Z Z<|zo (cs := [.str ⟨#[]⟩, .raw (.slice none 0 0), .raw (.slice none 0 0), .int .i64 0, .int .i64 0, .int .i64 0, .int .i64 0]) Z0 Z Z<|fun i4 => zh jm Z Z Z Z Z Z .head Z<|zd (yf (t := 4) Z .head)<|z6<|ze<|zSr<|zVzFF j7 Z Z6 Z Z<|zVzLf Zk Z<|zVGvlenM jo Z<|zVzMi Z<|z6<|zi<|y7 (γ := Nat) [1, 4, 16, 17, 18, 23, 24] (fun j => [(25, .int .i64 j)]) (fun j => []) (fun j => j ≤ b.phis.length ∧ (b.phis.take j).all (phiT f) = true) (fun j => b.phis.length - j) 0 zR1 zLe (⟨qd _, Z⟩) ?_
  rintro j ⟨hj, hjall⟩
  refine zSr<|zVGvlss Z Z<|z6<|ze<|y2 Z (fun cj=>?_) (fun cj=>?_)
  ·have hj2 : j < b.phis.length := by simp at cj; omega
   obtain ⟨p, hp⟩ : ∃ p, b.phis[j] = p := ⟨_, rfl⟩
   have hpm : p ∈ b.phis := hp ▸ qe hj2
   obtain ⟨hpd, hpl, hpn, hpa, hpf⟩ := hPh p hpm
   have hpb := (hb3 p hpm).1
   refine zj<|ze<|zi<|zSr<|z8 (zIM j jo ju Z Z Z (by rw [qa hj2, hp])) ?_
   refine zVGvloadWF Zj ju Z Z<|zo (cs := [.int .i64 0, .raw (.slice none 0 0), .raw (.slice none 0 0)]) Z9 Z Z<|fun i6 => zh ju Z Z Z Z Z Z .head Z<|zd (yf (t := 6) Z .head)<|z6<|zSr<|zVzFF jj Z ji Z Z<|zVzLf jq Z<|zVGvlenM j6 Z<|zVzMi Z<|z6<|zi<|y7 (γ := Nat) [1, 4, 6, 16, 17, 18, 23, 24, 25, 30, 31] (fun k => [(32, .int .i64 k)]) (fun k => []) (fun k => k ≤ p.args.length ∧ (p.args.take k).all (fun v => decide (kindV f v = kindV f p.dst)) = true) (fun k => p.args.length - k) 0 zR1 zLe (⟨qd _, Z⟩) ?_
   rintro k ⟨hk, hkall⟩
   refine zSr<|zVGvlss Z Z<|z6<|ze<|y2 Z (fun ck=>?_) (fun ck=>?_)
   ·have hk2 : k < p.args.length := by simp at ck; omega
    obtain ⟨v, hv⟩ : ∃ v, p.args[k] = v := ⟨_, rfl⟩
    have hvv := List.all_eq_true.1 hpa v (hv ▸ qe hk2)
    refine zj<|ze<|zi<|zSr<|z8 (zIM k j6 j8 Z Z Z (by rw [qa hk2, hv])) ?_
    refine zVzLi jl Z<|zVzAi Z<|z6<|ze<|y6 (fun j => false) (by kernel_rfl) Z (yb (.rest _))<|zTk 0 Z (yo jp j9 Z Z)<|zTk 1 Z (zMi Z)<|zTk 3 Z (yo jp j9 Z Z)<|zTk 4 Z (zFF jj Z j8 Z Z)<|zTk 5 Z (zLi jl Z)<|zOn 2 Z<|zg (rof_spec f v hvv) Z<|z6<|zOn 6 Z<|zg (rof_spec f p.dst hpd) Z<|z6<|zTk 7 Z (Gv.neqI Z Z)<|zDn<|y3 Z (fun cq=>?_) (fun cq=>?_)
    ·have hq : ¬ kindV f v = kindV f p.dst := by simpa using cq
     have hph : phiT f p = false := by
      unfold phiT
      rw [show (p.args.any fun v => !decide (kindV f v = kindV f p.dst)) = true from List.any_eq_true.2 ⟨v, hv ▸ qe hk2, by simp [hq]⟩]; rfl
     refine zSr<|zVzAb Z<|z6<|zk<|zm (x := .bool _) Z ?_
     rw [hbad (by unfold blkT; rw [show b.phis.all (phiT f) = false from Bool.eq_false_iff.2 (all_bad hj2 (by rw [hp]; exact hph))]; rfl)]
    ·have hq : kindV f v = kindV f p.dst := by simpa using cq
     refine zj<|zRg<|zVzAd Z Z<|zVzMi Z<|z6 ?_
     exact ⟨k + 1, ⟨rfl, rfl, rfl, rfl, rfl, rfl, rfl, rfl, rfl, rfl, rfl, trivial⟩, zR1, zLe, ⟨hk2, all_take hk2 hkall (by rw [hv]; simp [hq])⟩, by omega⟩
   ·have hkn : k = p.args.length := by simp at ck; omega
    rw [hkn, qf] at hkall
    have hph : phiT f p = true := by
     unfold phiT
     rw [show (p.args.any fun v => !decide (kindV f v = kindV f p.dst)) = false from List.any_eq_false.2 fun v hv => by have := List.all_eq_true.1 hkall v hv; simpa using this]; rfl
    refine y5<|zRg<|zVzAd Z Z<|zVzMi Z<|z6 ?_
    exact ⟨j + 1, zR7, zR1, zLe, ⟨hj2, all_take hj2 hjall (by rw [hp]; exact hph)⟩, by omega⟩
  ·have hjn : j = b.phis.length := by simp at cj; omega
   subst hjn
   rw [qf] at hjall
   refine y5<|ze<|zSr<|zVzFF j7 Z Z7 Z Z<|zVzLf Zm Z<|zVGvlenM js Z<|zVzMi Z<|z6<|zi<|y7 (γ := Nat) [1, 4, 16, 17, 18, 47, 48] (fun k => [(49, .int .i64 k)]) (fun k => []) (fun k => k ≤ b.insts.length ∧ (b.insts.take k).all (instT f) = true) (fun k => b.insts.length - k) 0 zR1 zLe (⟨qd _, Z⟩) ?_
   rintro k ⟨hk, hkall⟩
   refine zSr<|zVGvlss Z Z<|z6<|ze<|y2 Z (fun ck=>?_) (fun ck=>?_)
   ·have hk2 : k < b.insts.length := by simp at ck; omega
    obtain ⟨z, hz⟩ : ∃ z, b.insts[k] = z := ⟨_, rfl⟩
    have hzm : z ∈ b.insts := hz ▸ qe hk2
    have hI := instP_F (hIn z hzm)
    have hzl := hb4 z hzm
    have hwl := wantL_len hI
    have hdst : makesB z.op = true → hasV f z.dst = true := fun h => by
     rcases hI.dst with ⟨d1, _⟩ | ⟨_, _, d3⟩
     ·rw [h] at d1; cases d1
     ·exact d3
    have hcopy : z.op = 1 → makesB z.op = true := fun h => by rw [h]; rfl
    have hib : instT f z = false → f.blocks.all (blkT f) = false := fun h => hbad (by unfold blkT; rw [hjall, show b.insts.all (instT f) = false from Bool.eq_false_iff.2 (all_bad hk2 (by rw [hz]; exact h))]; rfl)
    refine zj<|ze<|zi<|zSr<|z8 (zIM k js jx Z Z Z (by rw [qa hk2, hz])) ?_
    refine zVGvloadWF Zn jx Z Z<|zo (cs := [.int .i64 0, .int .i64 0, .raw (.slice none 0 0), .int .i64 0]) Zf Z Z<|fun i10 => zh jx Z Z Z Z Z Z .head Z<|zd (yf (t := 10) Z .head)<|z6<|ze<|yt (γ := Nat) [1, 4, 10, 16, 17, 18, 47, 48, 49] (fun g => [(11, .po g 0)]) (fun g => [(g, .cells 124 (encK (kRow z.op)))]) (fun g => True) ?_ (fun _ _ h => h) ?_
    ·refine y6 (fun j => false) (by kernel_rfl) Z (yb (.rest _))<|zTk 1 Z (zFF jh Z Zo Z Z)<|zTk 2 Z (zLi Zt Z)<|yg (i := 0) (j := 5) Z Z (by kernel_rfl) ?_ ?_
     ·refine zg (rows_spec) Z<|z6<|zTk 3 Z (zIM z.op.toNat underlying125 Zx Z Z (by have := hI.op; omega) (kRow_get hI.op))<|zTk 4 Z (yo isAgg124 Zx Z Z)<|zOn 5 Z<|zo (cs := [.str ⟨#[]⟩, .str ⟨#[]⟩, .str ⟨#[]⟩]) Ye Z Z<|fun i11 => z6<|zOn 6 Z<|zh Zx Z Z Z Z Z Z .head Z<|z6<|zDn ?_
      exact ⟨i11, zR9, zR1, zLe, trivial⟩
     ·refine zo (cs := [.str ⟨#[]⟩, .str ⟨#[]⟩, .str ⟨#[]⟩]) Ye Z Z<|fun i11 => z6<|zOn 0 Z<|zg (rows_spec) Z<|z6<|zTk 3 Z (zIM z.op.toNat underlying125 Zx Z Z (by have := hI.op; omega) (kRow_get hI.op))<|zTk 4 Z (yo isAgg124 Zx Z Z)<|zOn 6 Z<|zh Zx Z Z Z Z Z Z .head Z<|z6<|zDn ?_
      exact ⟨i11, zR9, zR1, zLe, trivial⟩
    ·rintro i11 _
     refine ze<|zSr<|zVzFF jh Z ji Z Z<|zVzLf jq Z<|zVGvlenM j6 Z<|zVzMi Z<|z6<|zi<|y7 (γ := Nat) [1, 4, 10, 11, 16, 17, 18, 47, 48, 49, 60] (fun m => [(61, .int .i64 m)]) (fun m => [(i11, .cells 124 (encK (kRow z.op)))]) (fun m => m ≤ z.args.length ∧ (z.args.take m).map (kindV f) = (wantL f z).take m) (fun m => z.args.length - m) 0 zR1 zLe (⟨qd _, by simp⟩) ?_
     rintro m ⟨hm, hmall⟩
     refine zSr<|zVGvlss Z Z<|z6<|ze<|y2 Z (fun cm=>?_) (fun cm=>?_)
     ·have hm2 : m < z.args.length := by simp at cm; omega
      have hmw : m < (wantL f z).length := by omega
      have hmt : m < (takesL z.op).length := by have := hI.len; omega
      obtain ⟨v, hv⟩ : ∃ v, z.args[m] = v := ⟨_, rfl⟩
      have hvv := hI.args v (hv ▸ qe hm2)
      obtain ⟨c, hc, hct⟩ := takes_byte hmt
      have hbadm : ¬ kindV f v = (wantL f z)[m] → f.blocks.all (blkT f) = false := fun h => hib (by rw [instT_want hI, qn (map_ne hm2 hmw (by rw [hv]; exact h))]; rfl)
      refine zj<|ze<|zi<|zSr<|zVzMi Z<|zVzAi Z<|z6<|zSr<|z8 (zf Zp Z Z1 (by decide) Z Z)<|z8 (zp (c := .str _) Za Z ⟨_, .head⟩ Z)<|zVzMi Z<|z8 (Gv.indexT (j := m) Z4 Z Z Z hc)<|zg (rtype_spec (c.toNat : Int)) Z<|zVzAi Z<|z6<|ze<|zSr<|z8 (zf Zp Z Z1 (by decide) Z Z)<|z8 (zp (c := .str _) Za Z ⟨_, .head⟩ Z)<|z8 (Gv.eqlT Z Z)<|z6<|y3 Z (fun cw=>?_) (fun cw=>?_)
      ·have ew : z.op = 1 := (copy_op hI.op).1 (by simpa using cw)
       refine zRg<|zVGvloadWF jp j9 Z Z<|zVzFF jh Z j8 Z Z<|zVzLi jl Z<|zg (rof_spec f z.dst (hdst (hcopy ew))) Z<|zVzAi Z<|z6<|ze<|y6 (fun j => false) (by kernel_rfl) Z (yb (.rest _))<|zTk 0 Z (yo jp j9 Z Z)<|zTk 1 Z (zFF jh Z ji Z Z)<|zTk 2 Z (zLf jq Z)<|zTk 3 Z (zMi Z)<|zTk 4 Z (zIM m j6 j8 Z Z Z (by rw [qa hm2, hv])) ?_
       refine zTk 5 Z (zLi jl Z)<|zTk 7 Z (zMi Z)<|zOn 6 Z<|zg (rof_spec f v hvv) Z<|z6<|zTk 8 Z (Gv.neqI Z Z)<|zDn<|y3 Z (fun cq=>?_) (fun cq=>?_)
       ·have hq : ¬ kindV f v = kindV f z.dst := by simpa using cq
        refine zSr<|zVzAb Z<|z6<|zk<|zm (x := .bool _) Z ?_
        rw [hbadm (by rw [want_1 ew hmw]; exact hq)]
       ·have hq : kindV f v = kindV f z.dst := by simpa using cq
        refine zj<|zRg<|zVzAd Z Z<|zVzMi Z<|z6 ?_
        exact ⟨m + 1, ⟨rfl, rfl, rfl, rfl, rfl, rfl, rfl, rfl, rfl, rfl, rfl, trivial⟩, zR1, zLe, ⟨hm2, map_take_succ hm2 hmw hmall (by rw [hv, want_1 ew hmw]; exact hq)⟩, by omega⟩
      ·have ew : ¬ z.op = 1 := fun e => by have := (copy_op hI.op).2 e; simp [this] at cw
       refine zj<|ze<|y6 (fun j => false) (by kernel_rfl) Z (yb (.rest _))<|zTk 0 Z (yo jp j9 Z Z)<|zTk 1 Z (zFF jh Z ji Z Z)<|zTk 2 Z (zLf jq Z)<|zTk 3 Z (zMi Z)<|zTk 4 Z (zIM m j6 j8 Z Z Z (by rw [qa hm2, hv])) ?_
       refine zTk 5 Z (zLi jl Z)<|zTk 7 Z (zMi Z)<|zOn 6 Z<|zg (rof_spec f v hvv) Z<|z6<|zTk 8 Z (Gv.neqI Z Z)<|zDn<|y3 Z (fun cq=>?_) (fun cq=>?_)
       ·have hq : ¬ kindV f v = typeOf (c.toNat : Int) := by simpa using cq
        refine zSr<|zVzAb Z<|z6<|zk<|zm (x := .bool _) Z ?_
        rw [hbadm (by rw [want_2 ew hmw hmt, hct]; exact hq)]
       ·have hq : kindV f v = typeOf (c.toNat : Int) := by simpa using cq
        refine zj<|zRg<|zVzAd Z Z<|zVzMi Z<|z6 ?_
        exact ⟨m + 1, ⟨rfl, rfl, rfl, rfl, rfl, rfl, rfl, rfl, rfl, rfl, rfl, trivial⟩, zR1, zLe, ⟨hm2, map_take_succ hm2 hmw hmall (by rw [hv, want_2 ew hmw hmt, hct]; exact hq)⟩, by omega⟩
     ·have hmn : m = z.args.length := by simp at cm; omega
      have hall2 : z.args.map (kindV f) = wantL f z := by rw [hmn, qf, hwl, qf] at hmall; exact hmall
      have hiw := instT_want hI
      rw [qm hall2, Bool.true_and] at hiw
      refine y5<|ze<|y6 (fun j => false) (by kernel_rfl) Z (yb (.r (.rest _)))<|zTk 0 Z (zf Zp Z Z1 (by decide) Z Z)<|zTk 1 Z (zp (c := .str _) Za Z ⟨_, .head⟩ Z)<|zTk 2 Z (Gv.neqT Z Z)<|zTk 3 Z (zMb Z)<|AAny.case (s := 89) Z (fun c1=>?_) (fun c1=>?_)
      ·have d1 : ¬ (kRow z.op).2.2 = ⟨#[]⟩ := by simpa using c1
       have dm : makesB z.op = true := by rw [makesB_eq, qn d1]; rfl
       obtain ⟨c, hc, hct⟩ := makes_byte d1
       refine zTt 4 Z Z Z c1 (zf Zp Z Z1 (by decide) Z Z)<|zTt 5 Z Z Z c1 (zp (c := .str _) Za Z ⟨_, .head⟩ Z)<|zTt 6 Z Z Z c1 (Gv.neqT Z Z)<|zTk 7 Z (zPt Z c1 Z)<|zTk 8 Z (zMb Z)<|AAny.case (s := 94) Z (fun c2=>?_) (fun c2=>?_)
       ·have ew : ¬ z.op = 1 := fun e => by have := (copy_op hI.op).2 e; simp [this] at c2
        refine zTt 9 Z Z Z c2 (yo jp j9 Z Z)<|zTt 10 Z Z Z c2 (zFF jh Z j8 Z Z)<|zTt 11 Z Z Z c2 (zLi jl Z)<|zTt 13 Z Z Z c2 (zf Zp Z Z1 (by decide) Z Z)<|zTt 14 Z Z Z c2 (zp (c := .str _) Za Z ⟨_, .head⟩ Z)<|zTt 15 Z Z Z c2 (Gv.indexT (j := 0) Z4 Z Z Z hc)<|zOn 12 Z<|za Z Z c2<|zg (rof_spec f z.dst (hdst dm)) Z<|z6<|zOn 16 Z<|za Z Z c2<|zg (rtype_spec (c.toNat : Int)) Z<|z6<|zTt 17 Z Z Z c2 (Gv.neqI Z Z)<|zTk 18 Z (zPt Z c2 Z)<|zDn<|y3 Z (fun cq=>?_) (fun cq=>?_)
        ·have hq : ¬ kindV f z.dst = typeOf (c.toNat : Int) := by simpa using cq
         refine zSr<|zVzAb Z<|z6<|zk<|zm (x := .bool _) Z ?_
         rw [hib (by rw [hiw, dm, qn ew, hct, qn hq]; rfl)]
        ·have hq : kindV f z.dst = typeOf (c.toNat : Int) := by simpa using cq
         refine zj<|zRg<|zVzAd Z Z<|zVzMi Z<|z6 ?_
         exact ⟨k + 1, zR7, zR1, ⟨_, (.drop (.refl _)), rfl⟩, ⟨hk2, all_take hk2 hkall (by rw [hz, hiw, hct, qm hq]; simp)⟩, by omega⟩
       ·have ew : z.op = 1 := (copy_op hI.op).1 (by simpa using c2)
        refine zTf 9 Z Z Z c2<|zTf 10 Z Z Z c2<|zTf 11 Z Z Z c2<|zTf 12 Z Z Z c2<|zTf 13 Z Z Z c2<|zTf 14 Z Z Z c2<|zTf 15 Z Z Z c2<|zTf 16 Z Z Z c2<|zTf 17 Z Z Z c2<|zTk 18 Z (zPf Z c2 Z)<|zDn<|yl Z Z<|zj<|zRg<|zVzAd Z Z<|zVzMi Z<|z6 ?_
        exact ⟨k + 1, zR7, zR1, ⟨_, (.drop (.refl _)), rfl⟩, ⟨hk2, all_take hk2 hkall (by rw [hz, hiw, qm ew]; simp)⟩, by omega⟩
      ·have d1 : (kRow z.op).2.2 = ⟨#[]⟩ := by simpa using c1
       have dm : makesB z.op = false := by rw [makesB_eq, qm d1]; rfl
       refine zTf 4 Z Z Z c1<|zTf 5 Z Z Z c1<|zTf 6 Z Z Z c1<|zTk 7 Z (zPf Z c1 Z)<|zTk 8 Z (zMb Z)<|zTf 9 Z Z Z Z<|zTf 10 Z Z Z Z<|zTf 11 Z Z Z Z<|zTf 12 Z Z Z Z<|zTf 13 Z Z Z Z<|zTf 14 Z Z Z Z<|zTf 15 Z Z Z Z<|zTf 16 Z Z Z Z<|zTf 17 Z Z Z Z<|zTk 18 Z (zPf Z Z Z)<|zDn<|yl Z Z<|zj<|zRg<|zVzAd Z Z<|zVzMi Z<|z6 ?_
       exact ⟨k + 1, zR7, zR1, ⟨_, (.drop (.refl _)), rfl⟩, ⟨hk2, all_take hk2 hkall (by rw [hz, hiw, dm]; rfl)⟩, by omega⟩
   ·have hkn : k = b.insts.length := by simp at ck; omega
    rw [hkn, qf] at hkall
    refine y5<|zSr<|zVzFF j7 Z jv Z Z<|zVGvloadWF Zy jv Z Z<|zo (cs := [.int .i64 0, .int .i64 0, .int .i64 0, .int .i64 0]) zeroValue66 Z Z<|fun i14 => zh jv Z Z Z Z Z Z .head Z<|zd (yf (t := 14) Z .head)<|z6<|ze<|yt (γ := Bool) [1, 16, 17, 18] (fun u => [(152, .bool u)]) (fun u => []) (fun u => u = !termT f b.term) ?_ (fun _ _ h => h) ?_
    ·have hk3 := term_kind hTm
     refine zRg<|zVzFF je Z Zg Z Z<|zVzLi Zl Z<|zVGveqlI Z Z<|zVzMb Z<|zy (s := 111) Z (fun c1=>?_) (fun c1=>?_)
     ·refine za Z Z c1<|zVGvloadWF jp j9 Z Z<|za Z Z c1<|zVzFF je Z j8 Z Z<|za Z Z c1<|zVzLi jl Z<|za Z Z c1<|zg (rof_spec f b.term.var (term_var hTm (by simp_all))) Z<|za Z Z c1<|zVGvneqI Z Z<|zVzPt Z c1 Z<|zVzMb Z<|zy (s := 118) Z (fun c2=>?_) (fun c2=>?_)
      ·refine z7 Z Z c2<|z7 Z Z c2<|z7 Z Z c2<|z7 Z Z c2<|zn Z Z<|zn Z Z<|zn Z Z<|zn Z Z<|zn Z Z<|zn Z Z<|zn Z Z<|zn Z Z<|zn Z Z<|zn Z Z<|zn Z Z<|zn Z Z<|zn Z Z<|zn Z Z<|zn Z Z<|zn Z Z<|zn Z Z<|z7 Z Z c2<|zVzPt Z c2 Z<|zVzMb Z<|z7 Z Z Z<|z7 Z Z Z<|z7 Z Z Z<|z7 Z Z Z<|zn Z Z<|zn Z Z<|zn Z Z<|zn Z Z<|z7 Z Z Z<|zVzPt Z Z Z<|z6 ?_
       exact ⟨_, zR4, zR1, zLe, by simp_all [termT] <;> omega⟩
      ·refine za Z Z c2<|zVzFF je Z Zg Z Z<|za Z Z c2<|zVzLi Zl Z<|za Z Z c2<|zVGveqlI Z Z<|za Z Z c2<|zVzMb Z<|zy (s := 122) Z (fun c3=>?_) (fun c3=>?_)
       ·refine za Z Z c3<|zVGvloadWF jp j9 Z Z<|za Z Z c3<|zVzFF je Z j8 Z Z<|za Z Z c3<|zVzLi jl Z<|za Z Z c3<|zg (rof_spec f b.term.var (term_var hTm (by simp_all))) Z<|za Z Z c3<|zVGvneqI Z Z<|za Z Z c3<|zVzMb Z<|zy (s := 128) Z (fun c4=>?_) (fun c4=>?_)
        ·refine z7 Z Z c4<|z7 Z Z c4<|z7 Z Z c4<|z7 Z Z c4<|za Z Z c3<|zVzPt Z c4 Z<|za Z Z c3<|zVzMb Z<|z7 Z Z Z<|z7 Z Z Z<|z7 Z Z Z<|z7 Z Z Z<|za Z Z c3<|zVzPt Z Z Z<|za Z Z c2<|zVzPt Z c3 Z<|zVzPf Z c2 Z<|zVzMb Z<|z7 Z Z Z<|z7 Z Z Z<|z7 Z Z Z<|z7 Z Z Z<|zn Z Z<|zn Z Z<|zn Z Z<|zn Z Z<|z7 Z Z Z<|zVzPt Z Z Z<|z6 ?_
         exact ⟨_, zR4, zR1, zLe, by simp_all [termT] <;> omega⟩
        ·refine za Z Z c4<|zVzFF je Z jy Z Z<|za Z Z c4<|z8 (yr (j := 0) jr j8 Z Z Z (by decide) Z)<|za Z Z c4<|zVzLi jl Z<|za Z Z c4<|zVGveqlI Z Z<|za Z Z c3<|zVzPf Z c4 Z<|za Z Z c3<|zVzMb Z<|zy (s := 134) Z (fun c5=>?_) (fun c5=>?_)
         ·refine z7 Z Z c5<|z7 Z Z c5<|z7 Z Z c5<|z7 Z Z c5<|za Z Z c3<|zVzPt Z c5 Z<|za Z Z c2<|zVzPt Z c3 Z<|zVzPf Z c2 Z<|zVzMb Z<|z7 Z Z Z<|z7 Z Z Z<|z7 Z Z Z<|z7 Z Z Z<|zn Z Z<|zn Z Z<|zn Z Z<|zn Z Z<|z7 Z Z Z<|zVzPt Z Z Z<|z6 ?_
          exact ⟨_, zR4, zR1, zLe, by simp_all [termT] <;> omega⟩
         ·refine za Z Z c5<|zVzFF je Z jy Z Z<|za Z Z c5<|z8 (yr (j := 1) jr j8 Z Z Z (by decide) Z)<|za Z Z c5<|zVzLi jl Z<|za Z Z c5<|zVGveqlI Z Z<|za Z Z c3<|zVzPf Z c5 Z<|za Z Z c2<|zVzPt Z c3 Z<|zVzPf Z c2 Z<|zVzMb Z<|zy (s := 142) Z (fun c6=>?_) (fun c6=>?_)
          ·refine z7 Z Z c6<|z7 Z Z c6<|z7 Z Z c6<|z7 Z Z c6<|zn Z Z<|zn Z Z<|zn Z Z<|zn Z Z<|z7 Z Z c6<|zVzPt Z c6 Z<|z6 ?_
           exact ⟨_, zR4, zR1, zLe, by simp_all [termT] <;> omega⟩
          ·refine za Z Z c6<|zVzFF je Z Zg Z Z<|za Z Z c6<|zVzLi Zl Z<|za Z Z c6<|zVGveqlI Z Z<|za Z Z c6<|zVzMb Z<|zy (s := 146) Z (fun c7=>?_) (fun c7=>?_)
           ·refine za Z Z c7<|zVzFF je Z jy Z Z<|za Z Z c7<|z8 (yr (j := 0) jr j8 Z Z Z (by decide) Z)<|za Z Z c7<|zVzLi jl Z<|za Z Z c7<|zVGveqlI Z Z<|za Z Z c6<|zVzPt Z c7 Z<|zVzPf Z c6 Z<|z6 ?_
            exact ⟨_, zR4, zR1, zLe, by simp_all [termT] <;> omega⟩
           ·refine z7 Z Z c7<|z7 Z Z c7<|z7 Z Z c7<|z7 Z Z c7<|za Z Z c6<|zVzPf Z c7 Z<|zVzPf Z c6 Z<|z6 ?_
            exact ⟨_, zR4, zR1, zLe, by simp_all [termT] <;> omega⟩
       ·refine z7 Z Z c3<|z7 Z Z c3<|z7 Z Z c3<|z7 Z Z c3<|z7 Z Z c3<|z7 Z Z c3<|zn Z Z<|zn Z Z<|zn Z Z<|zn Z Z<|z7 Z Z c3<|z7 Z Z c3<|zn Z Z<|zn Z Z<|zn Z Z<|zn Z Z<|z7 Z Z c3<|za Z Z c2<|zVzPf Z c3 Z<|zVzPf Z c2 Z<|zVzMb Z<|za Z Z Z<|zVzFF je Z Zg Z Z<|za Z Z Z<|zVzLi Zl Z<|za Z Z Z<|zVGveqlI Z Z<|za Z Z Z<|zVzMb Z<|zy (s := 146) Z (fun c8=>?_) (fun c8=>?_)
        ·refine za Z Z c8<|zVzFF je Z jy Z Z<|za Z Z c8<|z8 (yr (j := 0) jr j8 Z Z Z (by decide) Z)<|za Z Z c8<|zVzLi jl Z<|za Z Z c8<|zVGveqlI Z Z<|za Z Z Z<|zVzPt Z c8 Z<|zVzPf Z Z Z<|z6 ?_
         exact ⟨_, zR4, zR1, zLe, by simp_all [termT] <;> omega⟩
        ·refine z7 Z Z c8<|z7 Z Z c8<|z7 Z Z c8<|z7 Z Z c8<|za Z Z Z<|zVzPf Z c8 Z<|zVzPf Z Z Z<|z6 ?_
         exact ⟨_, zR4, zR1, zLe, by simp_all [termT] <;> omega⟩
     ·refine z7 Z Z c1<|z7 Z Z c1<|z7 Z Z c1<|z7 Z Z c1<|z7 Z Z c1<|zVzPf Z c1 Z<|zVzMb Z<|za Z Z Z<|zVzFF je Z Zg Z Z<|za Z Z Z<|zVzLi Zl Z<|za Z Z Z<|zVGveqlI Z Z<|za Z Z Z<|zVzMb Z<|zy (s := 122) Z (fun c9=>?_) (fun c9=>?_)
      ·refine za Z Z c9<|zVGvloadWF jp j9 Z Z<|za Z Z c9<|zVzFF je Z j8 Z Z<|za Z Z c9<|zVzLi jl Z<|za Z Z c9<|zg (rof_spec f b.term.var (term_var hTm (by simp_all))) Z<|za Z Z c9<|zVGvneqI Z Z<|za Z Z c9<|zVzMb Z<|zy (s := 128) Z (fun c10=>?_) (fun c10=>?_)
       ·refine z7 Z Z c10<|z7 Z Z c10<|z7 Z Z c10<|z7 Z Z c10<|za Z Z c9<|zVzPt Z c10 Z<|za Z Z c9<|zVzMb Z<|z7 Z Z Z<|z7 Z Z Z<|z7 Z Z Z<|z7 Z Z Z<|za Z Z c9<|zVzPt Z Z Z<|za Z Z Z<|zVzPt Z c9 Z<|zVzPf Z Z Z<|zVzMb Z<|z7 Z Z Z<|z7 Z Z Z<|z7 Z Z Z<|z7 Z Z Z<|zn Z Z<|zn Z Z<|zn Z Z<|zn Z Z<|z7 Z Z Z<|zVzPt Z Z Z<|z6 ?_
        exact ⟨_, zR4, zR1, zLe, by simp_all [termT] <;> omega⟩
       ·refine za Z Z c10<|zVzFF je Z jy Z Z<|za Z Z c10<|z8 (yr (j := 0) jr j8 Z Z Z (by decide) Z)<|za Z Z c10<|zVzLi jl Z<|za Z Z c10<|zVGveqlI Z Z<|za Z Z c9<|zVzPf Z c10 Z<|za Z Z c9<|zVzMb Z<|zy (s := 134) Z (fun c11=>?_) (fun c11=>?_)
        ·refine z7 Z Z c11<|z7 Z Z c11<|z7 Z Z c11<|z7 Z Z c11<|za Z Z c9<|zVzPt Z c11 Z<|za Z Z Z<|zVzPt Z c9 Z<|zVzPf Z Z Z<|zVzMb Z<|z7 Z Z Z<|z7 Z Z Z<|z7 Z Z Z<|z7 Z Z Z<|zn Z Z<|zn Z Z<|zn Z Z<|zn Z Z<|z7 Z Z Z<|zVzPt Z Z Z<|z6 ?_
         exact ⟨_, zR4, zR1, zLe, by simp_all [termT] <;> omega⟩
        ·refine za Z Z c11<|zVzFF je Z jy Z Z<|za Z Z c11<|z8 (yr (j := 1) jr j8 Z Z Z (by decide) Z)<|za Z Z c11<|zVzLi jl Z<|za Z Z c11<|zVGveqlI Z Z<|za Z Z c9<|zVzPf Z c11 Z<|za Z Z Z<|zVzPt Z c9 Z<|zVzPf Z Z Z<|zVzMb Z<|zy (s := 142) Z (fun c12=>?_) (fun c12=>?_)
         ·refine z7 Z Z c12<|z7 Z Z c12<|z7 Z Z c12<|z7 Z Z c12<|zn Z Z<|zn Z Z<|zn Z Z<|zn Z Z<|z7 Z Z c12<|zVzPt Z c12 Z<|z6 ?_
          exact ⟨_, zR4, zR1, zLe, by simp_all [termT] <;> omega⟩
         ·refine za Z Z c12<|zVzFF je Z Zg Z Z<|za Z Z c12<|zVzLi Zl Z<|za Z Z c12<|zVGveqlI Z Z<|za Z Z c12<|zVzMb Z<|zy (s := 146) Z (fun c13=>?_) (fun c13=>?_)
          ·refine za Z Z c13<|zVzFF je Z jy Z Z<|za Z Z c13<|z8 (yr (j := 0) jr j8 Z Z Z (by decide) Z)<|za Z Z c13<|zVzLi jl Z<|za Z Z c13<|zVGveqlI Z Z<|za Z Z c12<|zVzPt Z c13 Z<|zVzPf Z c12 Z<|z6 ?_
           exact ⟨_, zR4, zR1, zLe, by simp_all [termT] <;> omega⟩
          ·refine z7 Z Z c13<|z7 Z Z c13<|z7 Z Z c13<|z7 Z Z c13<|za Z Z c12<|zVzPf Z c13 Z<|zVzPf Z c12 Z<|z6 ?_
           exact ⟨_, zR4, zR1, zLe, by simp_all [termT] <;> omega⟩
      ·refine z7 Z Z c9<|z7 Z Z c9<|z7 Z Z c9<|z7 Z Z c9<|z7 Z Z c9<|z7 Z Z c9<|zn Z Z<|zn Z Z<|zn Z Z<|zn Z Z<|z7 Z Z c9<|z7 Z Z c9<|zn Z Z<|zn Z Z<|zn Z Z<|zn Z Z<|z7 Z Z c9<|za Z Z Z<|zVzPf Z c9 Z<|zVzPf Z Z Z<|zVzMb Z<|za Z Z Z<|zVzFF je Z Zg Z Z<|za Z Z Z<|zVzLi Zl Z<|za Z Z Z<|zVGveqlI Z Z<|za Z Z Z<|zVzMb Z<|zy (s := 146) Z (fun c14=>?_) (fun c14=>?_)
       ·refine za Z Z c14<|zVzFF je Z jy Z Z<|za Z Z c14<|z8 (yr (j := 0) jr j8 Z Z Z (by decide) Z)<|za Z Z c14<|zVzLi jl Z<|za Z Z c14<|zVGveqlI Z Z<|za Z Z Z<|zVzPt Z c14 Z<|zVzPf Z Z Z<|z6 ?_
        exact ⟨_, zR4, zR1, zLe, by simp_all [termT] <;> omega⟩
       ·refine z7 Z Z c14<|z7 Z Z c14<|z7 Z Z c14<|z7 Z Z c14<|za Z Z Z<|zVzPf Z c14 Z<|zVzPf Z Z Z<|z6 ?_
        exact ⟨_, zR4, zR1, zLe, by simp_all [termT] <;> omega⟩
    ·rintro u hu
     subst hu
     refine y3 Z (fun ct=>?_) (fun ct=>?_)
     ·have dt : termT f b.term = false := by simpa using ct
      refine zSr<|zVzAb Z<|z6<|zk<|zm (x := .bool _) Z ?_
      rw [hbad (by unfold blkT; rw [hjall, hkall, dt]; rfl)]
     ·have dt : termT f b.term = true := by simpa using ct
      refine zj<|zRg<|zVzAd Z Z<|zVzMi Z<|z6 ?_
      exact ⟨i + 1, zR3, zR1, zLe, ⟨hi2, all_take hi2 hall (by rw [hbi]; unfold blkT; rw [hjall, hkall, dt]; rfl)⟩, by omega⟩
 ·have hin : i = f.blocks.length := by simp at ci; omega
  rw [hin, qf] at hall
  refine y5<|zSr<|zVzAb Z<|z6<|zk<|zm (x := .bool _) Z ?_
  rw [hall]
end Go.Proofs.YtpojdepccecpgaaGreatDoor
namespace Go.Proofs.YtpojdepccecpgaaGreatDoor
open Go.Proofs.Tryz
open Go.Proofs Go.Lib Go.Shelf Go.RowKit
set_option maxRecDepth 20000
variable {E : World}
theorem sum_take {α : Type} (g : α → Nat) : ∀ (l : List α) (k : Nat), ((l.take k).map g).sum ≤ (l.map g).sum
 | [], k => by simp
 | x :: l, 0 => by simp
 | x :: l, k + 1 => by
  have := sum_take g l k
  simp only [List.take_succ_cons, List.map_cons, List.sum_cons]; omega
theorem wP_take (l : List PPhi) (k : Nat) : wP (l.take k) ≤ wP l := sum_take _ l k
theorem wX_take (l : List PInst) (k : Nat) : wX (l.take k) ≤ wX l := sum_take _ l k
theorem little_le {f : PFunc} (h : little f) {k : Nat} (hk : k < f.blocks.length) : wV f.vars + wBs (f.blocks.take k) + wB f.blocks[k] ≤ 4000 := by
 have h1 := h.2.2.2.2.2 (fun e => by rw [e] at hk; exact absurd hk (Nat.not_lt_zero _))
 have h2 : wBs (f.blocks.take (k + 1)) ≤ wBs f.blocks := sum_take _ f.blocks (k + 1)
 rw [wBs_succ hk] at h2
 omega
set_option maxHeartbeats 8000000 in
theorem fewIff_spec (f : PFunc) (hf : wFunc f) : ACall prog E 8 [.agg (encF f)] [] (fun x _ => ∃ b : Bool, x = .bool b ∧ (b = true ↔ little f)) := by
 obtain ⟨hf1, hf2, hf3, hf4⟩ := hf
 have hl1 := hf1.lt
 have hl3 := hf3.lt
 refine zt func8 Z (by decide) Z<|zSr<|yc (cs := _) Z Z Z<|zVzAb Z<|z6<|ze<|ze<|yt (γ := Unit) [1] (fun u => [(27, .bool (few1 f))]) (fun u => []) (fun u => True) ?_ (fun _ _ h => h) ?_
 ·refine zRg<|zVzFF jd Z Zb Z Z<|zVzLf Zh Z<|zVGvlenM jk Z<|z8 (q7 Z Z)<|zVzMb Z<|zy (s := 16) Z (fun c1=>?_) (fun c1=>?_)
  ·refine z7 Z Z c1<|z7 Z Z c1<|z7 Z Z c1<|z7 Z Z c1<|zVzPt Z c1 Z<|zVzMb Z<|z7 Z Z Z<|z7 Z Z Z<|z7 Z Z Z<|z7 Z Z Z<|zVzPt Z Z Z<|z6 ?_
   exact ⟨(), zR1, ⟨jb (by simp_all [few1] <;> grind), trivial⟩, zLe, trivial⟩
  ·refine za Z Z c1<|zVzFF jd Z jw Z Z<|za Z Z c1<|zVzLf Z3 Z<|za Z Z c1<|zVGvlenM jc Z<|za Z Z c1<|z8 (q7 Z Z)<|zVzPf Z c1 Z<|zVzMb Z<|zy (s := 22) Z (fun c2=>?_) (fun c2=>?_)
   ·refine z7 Z Z c2<|z7 Z Z c2<|z7 Z Z c2<|z7 Z Z c2<|zVzPt Z c2 Z<|z6 ?_
    exact ⟨(), zR1, ⟨jb (by simp_all [few1] <;> grind), trivial⟩, zLe, trivial⟩
   ·refine za Z Z c2<|zVzFF jd Z ji Z Z<|za Z Z c2<|zVzLf jq Z<|za Z Z c2<|zVGvlenM j6 Z<|za Z Z c2<|z8 (q7 Z Z)<|zVzPf Z c2 Z<|z6 ?_
    exact ⟨(), zR1, ⟨jb (by simp_all [few1] <;> grind), trivial⟩, zLe, trivial⟩
 ·rintro _ _
  refine y3 Z (fun c1=>?_) (fun c1=>?_)
  ·refine zSr<|zVzAb Z<|z6<|zk<|zm (x := .bool _) Z ?_
   exact ⟨_, rfl, fun h => (by cases h), fun hl => absurd hl (fun hl => by have h1 := hl.1; have h2 := hl.2.1; have h3 := hl.2.2.1; unfold few1 at c1; simp at c1; omega)⟩
  ·have hsz : f.vars.length ≤ 100 ∧ f.blocks.length ≤ 40 ∧ f.params.length ≤ 20 := by unfold few1 at c1; simp at c1; omega
   refine zj<|zSr<|zVzAi Z<|z6<|ze<|zSr<|zVzFF jd Z Zb Z Z<|zVzLf Zh Z<|zVGvlenM jk Z<|zVzMi Z<|z6<|zi<|y7 (γ := Nat) [1, 29, 30] (fun k => [(31, .int .i64 k), (3, .int .i64 (wV (f.vars.take k)))]) (fun k => []) (fun k => k ≤ f.vars.length ∧ wV (f.vars.take k) ≤ 400 * k ∧ ∀ v ∈ f.vars.take k, v.name.size ≤ 400) (fun k => f.vars.length - k) 0 zR2 zLe (⟨qd _, Nat.le_refl _, by simp⟩) ?_
   rintro k ⟨hk, hw, hv⟩
   refine zSr<|zVGvlss Z Z<|z6<|ze<|y2 Z (fun ck=>?_) (fun ck=>?_)
   ·have hk1 : k < f.vars.length := by omega
    have hs := wV_succ hk1
    refine zj<|ze<|zi<|zSr<|z8 (yi jk Z2 Z Z Z (qa (by omega)))<|zVGvloadWF Yf Z2 Z Z<|zo (cs := [.str ⟨#[]⟩, .int .i64 0]) Y8 Z Z<|fun i5 => zh Z2 Z Z Z Z Z Z .head Z<|z6<|ze<|zSr<|z8 (zf Z5 Z Z1 (by decide) Z Z)<|z8 (zp (c := .str _) Za Z ⟨_, .head⟩ Z)<|z8 (Gv.lenT Z4 Z)<|z8 (q7 Z Z)<|z6<|y2 Z (fun cn=>?_) (fun cn=>?_)
    ·refine zSr<|zVzAb Z<|z6<|zk<|zm (x := .bool _) Z ?_
     exact ⟨_, rfl, fun h => (by cases h), fun hl => absurd hl (fun hl => by have h1 := hl.2.2.2.1 _ (qe hk1); omega)⟩
    ·refine zj<|zRg<|zVzMi Z<|z8 (zf Z5 Z Z1 (by decide) Z Z)<|z8 (zp (c := .str _) Za Z ⟨_, .head⟩ Z)<|z8 (Gv.lenT Z4 Z)<|zVzAd Z Z<|zVzAi Z<|z6<|zRg<|zVzAd Z Z<|zVzMi Z<|z6 ?_
     exact ⟨k + 1, zR3, ⟨rfl, congrArg (AV.int .i64) (by rw [hs]; omega), trivial⟩, ⟨_, (.drop (.refl _)), rfl⟩, ⟨hk1, by omega, forall_take hk1 hv (by omega)⟩, by omega⟩
   ·obtain rfl : k = f.vars.length := by omega
    rw [qf] at hw hv
    rw [qf]
    refine y5<|ze<|zSr<|zVzFF jd Z jw Z Z<|zVzLf Z3 Z<|zVGvlenM jc Z<|zVzMi Z<|z6<|zi<|y7 (γ := Nat) [46, 47] (fun k => [(48, .int .i64 k), (3, .int .i64 (wV f.vars + wBs (f.blocks.take k) : Nat))]) (fun k => []) (fun k => k ≤ f.blocks.length ∧ (0 < k → wV f.vars + wBs (f.blocks.take k) ≤ 4000) ∧ wBs (f.blocks.take k) ≤ 4000 ∧ ∀ b ∈ f.blocks.take k, littleB b) (fun k => f.blocks.length - k) 0 zR2 zLe (⟨qd _, by omega, by simp [wBs], by simp⟩) ?_
    rintro k ⟨hk, hw2, hw3, hb⟩
    refine zSr<|zVGvlss Z Z<|z6<|ze<|y2 Z (fun ck=>?_) (fun ck=>?_)
    ·have hk1 : k < f.blocks.length := by omega
     obtain ⟨hb1, hb2, hb3, hb4⟩ := hf4 _ (qe hk1)
     have hs := wBs_succ hk1
     refine zj<|ze<|zi<|zSr<|z8 (yi jc jm Z Z Z (qa (by omega)))<|zVGvloadWF Ze jm Z Z<|zo (cs := [.str ⟨#[]⟩, .raw (.slice none 0 0), .raw (.slice none 0 0), .int .i64 0, .int .i64 0, .int .i64 0, .int .i64 0]) Z0 Z Z<|fun i7 => zh jm Z Z Z Z Z Z .head Z<|z6<|ze<|ze<|yt (γ := Unit) [3, 7, 46, 47, 48] (fun u => [(67, .bool (few2 f.blocks[k]))]) (fun u => [(i7, .cells 69 (encBlk f.blocks[k]))]) (fun u => True) ?_ (fun _ _ h => h) ?_
     ·refine zRg<|z8 (zf j7 Z Z1 (by decide) Z Z)<|z8 (zp (c := .str _) Za Z ⟨_, .head⟩ Z)<|z8 (Gv.lenT Z4 Z)<|z8 (q7 Z Z)<|zVzMb Z<|zy (s := 56) Z (fun c3=>?_) (fun c3=>?_)
      ·refine z7 Z Z c3<|z7 Z Z c3<|z7 Z Z c3<|z7 Z Z c3<|zVzPt Z c3 Z<|zVzMb Z<|z7 Z Z Z<|z7 Z Z Z<|z7 Z Z Z<|z7 Z Z Z<|zVzPt Z Z Z<|z6 ?_
       exact ⟨(), zR5, ⟨jb (by simp_all [few2] <;> grind), trivial⟩, zLe, trivial⟩
      ·refine za Z Z c3<|z8 (zf j7 Z Z6 (by decide) Z Z)<|za Z Z c3<|z8 (zp (c := .fro _ _) Zk Z ⟨_, .head⟩ Z)<|za Z Z c3<|zVGvlenM jo Z<|za Z Z c3<|z8 (q7 Z Z)<|zVzPf Z c3 Z<|zVzMb Z<|zy (s := 62) Z (fun c4=>?_) (fun c4=>?_)
       ·refine z7 Z Z c4<|z7 Z Z c4<|z7 Z Z c4<|z7 Z Z c4<|zVzPt Z c4 Z<|z6 ?_
        exact ⟨(), zR5, ⟨jb (by simp_all [few2] <;> grind), trivial⟩, zLe, trivial⟩
       ·refine za Z Z c4<|z8 (zf j7 Z Z7 (by decide) Z Z)<|za Z Z c4<|z8 (zp (c := .fro _ _) Zm Z ⟨_, .head⟩ Z)<|za Z Z c4<|zVGvlenM js Z<|za Z Z c4<|z8 (q7 Z Z)<|zVzPf Z c4 Z<|z6 ?_
        exact ⟨(), zR5, ⟨jb (by simp_all [few2] <;> grind), trivial⟩, zLe, trivial⟩
     ·rintro _ _
      refine y3 Z (fun c2=>?_) (fun c2=>?_)
      ·refine zSr<|zVzAb Z<|z6<|zk<|zm (x := .bool _) Z ?_
       exact ⟨_, rfl, fun h => (by cases h), fun hl => absurd hl (fun hl => by obtain ⟨h1, h2, h3, _⟩ := hl.2.2.2.2.1 _ (qe hk1); unfold few2 at c2; simp at c2; omega)⟩
      ·have hsb : f.blocks[k].name.size ≤ 400 ∧ f.blocks[k].phis.length ≤ 400 ∧ f.blocks[k].insts.length ≤ 400 := by unfold few2 at c2; simp at c2; omega
       refine zj<|zSr<|zVzMi Z<|z8 (zf j7 Z Z1 (by decide) Z Z)<|z8 (zp (c := .str _) Za Z ⟨_, .head⟩ Z)<|z8 (Gv.lenT Z4 Z)<|z8 (zf j7 Z Z6 (by decide) Z Z)<|z8 (zp (c := .fro _ _) Zk Z ⟨_, .head⟩ Z)<|zVGvlenM jo Z<|z8 (zf j7 Z Z7 (by decide) Z Z)<|z8 (zp (c := .fro _ _) Zm Z ⟨_, .head⟩ Z)<|zVGvlenM js Z<|zVzAd Z Z<|z8 (Gv.mul Z Z (by unfold I64; omega))<|zVzAd Z Z<|zVzAd Z Z<|zVzAi Z<|z6<|ze<|zSr<|z8 (zf j7 Z Z6 (by decide) Z Z)<|z8 (zp (c := .fro _ _) Zk Z ⟨_, .head⟩ Z)<|zVGvlenM jo Z<|zVzMi Z<|z6<|zi<|y7 (γ := Nat) [7, 46, 47, 48, 83, 84] (fun m => [(85, .int .i64 m), (3, .int .i64 (wV f.vars + wBs (f.blocks.take k) + (f.blocks[k].name.size + 10 * (f.blocks[k].phis.length + f.blocks[k].insts.length)) + wP (f.blocks[k].phis.take m) : Nat))]) (fun m => [(i7, .cells 69 (encBlk f.blocks[k]))]) (fun m => m ≤ f.blocks[k].phis.length ∧ wP (f.blocks[k].phis.take m) ≤ 800 * m ∧ ∀ p ∈ f.blocks[k].phis.take m, p.args.length ≤ 400 ∧ p.from_.length ≤ 400) (fun m => f.blocks[k].phis.length - m) 0 ⟨Z, (congrArg (AV.int .i64) (by simp [wP] <;> omega)), trivial⟩ zLe (⟨qd _, by simp [wP], by simp⟩) ?_
       rintro m ⟨hm, hwp, hp⟩
       refine zSr<|zVGvlss Z Z<|z6<|ze<|y2 Z (fun cm=>?_) (fun cm=>?_)
       ·have hm1 : m < f.blocks[k].phis.length := by omega
        obtain ⟨hq1, hq2⟩ := hb3 _ (qe hm1)
        have hl6 := hq1.lt
        have hl7 := hq2.lt
        have hs2 := wP_succ hm1
        refine zj<|ze<|zi<|zSr<|z8 (yi jo ju Z Z Z (qa (by omega)))<|zVGvloadWF Zj ju Z Z<|zo (cs := [.int .i64 0, .raw (.slice none 0 0), .raw (.slice none 0 0)]) Z9 Z Z<|fun i9 => zh ju Z Z Z Z Z Z .head Z<|z6<|ze<|ze<|yt (γ := Unit) [3, 7, 9, 46, 47, 48, 83, 84, 85] (fun u => [(102, .bool (decide ((4000 : Int) < (wV f.vars + wBs (f.blocks.take k) + (f.blocks[k].name.size + 10 * (f.blocks[k].phis.length + f.blocks[k].insts.length)) + wP (f.blocks[k].phis.take m) : Nat)) || (decide ((400 : Int) < f.blocks[k].phis[m].args.length) || decide ((400 : Int) < f.blocks[k].phis[m].from_.length))))]) (fun u => [(i9, .cells 71 (encPhi f.blocks[k].phis[m])), (i7, .cells 69 (encBlk f.blocks[k]))]) (fun u => True) ?_ (fun _ _ h => h) ?_
        ·refine zRg<|zVzMi Z<|z8 (q7 Z Z)<|zVzMb Z<|zy (s := 91) Z (fun c5=>?_) (fun c5=>?_)
         ·refine z7 Z Z c5<|z7 Z Z c5<|z7 Z Z c5<|z7 Z Z c5<|zVzPt Z c5 Z<|zVzMb Z<|z7 Z Z Z<|z7 Z Z Z<|z7 Z Z Z<|z7 Z Z Z<|zVzPt Z Z Z<|z6 ?_
          exact ⟨(), zR9, ⟨jb (by simp_all <;> grind), trivial⟩, zLe, trivial⟩
         ·refine za Z Z c5<|z8 (zf jj Z ji (by decide) Z Z)<|za Z Z c5<|z8 (zp (c := .fro _ _) jq Z ⟨_, .head⟩ Z)<|za Z Z c5<|zVGvlenM j6 Z<|za Z Z c5<|z8 (q7 Z Z)<|zVzPf Z c5 Z<|zVzMb Z<|zy (s := 97) Z (fun c6=>?_) (fun c6=>?_)
          ·refine z7 Z Z c6<|z7 Z Z c6<|z7 Z Z c6<|z7 Z Z c6<|zVzPt Z c6 Z<|z6 ?_
           exact ⟨(), zR9, ⟨jb (by simp_all <;> grind), trivial⟩, zLe, trivial⟩
          ·refine za Z Z c6<|z8 (zf jj Z ji (by decide) Z Z)<|za Z Z c6<|z8 (zp (c := .fro _ _) jq Z ⟨_, .head⟩ Z)<|za Z Z c6<|zVGvlenM j6 Z<|za Z Z c6<|z8 (q7 Z Z)<|zVzPf Z c6 Z<|z6 ?_
           exact ⟨(), zR9, ⟨jb (by simp_all <;> grind), trivial⟩, zLe, trivial⟩
        ·rintro _ _
         refine y3 Z (fun cp=>?_) (fun cp=>?_)
         ·refine zSr<|zVzAb Z<|z6<|zk<|zm (x := .bool _) Z ?_
          exact ⟨_, rfl, fun h => (by cases h), fun hl => absurd hl (fun hl => by obtain ⟨_, _, _, h4, _⟩ := hl.2.2.2.2.1 _ (qe hk1); have h5 := h4 _ (qe hm1); have h9 := little_le hl hk1; have hwb : wB f.blocks[k] = f.blocks[k].name.size + 10 * (f.blocks[k].phis.length + f.blocks[k].insts.length) + wP f.blocks[k].phis + wX f.blocks[k].insts := rfl; have h10 := wP_take f.blocks[k].phis m; simp only [Bool.or_eq_true, qq] at cp; omega)⟩
         ·rcases Bool.or_eq_false_iff.1 cp with ⟨a1, a2⟩
          rcases Bool.or_eq_false_iff.1 a2 with ⟨a3, a4⟩
          have a3 := of_decide_eq_false a3
          have a4 := of_decide_eq_false a4
          refine zj<|zRg<|zVzMi Z<|z8 (zf jj Z ji (by decide) Z Z)<|z8 (zp (c := .fro _ _) jq Z ⟨_, .head⟩ Z)<|zVGvlenM j6 Z<|z8 (zf jj Z ji (by decide) Z Z)<|z8 (zp (c := .fro _ _) jq Z ⟨_, .head⟩ Z)<|zVGvlenM j6 Z<|zVzAd Z Z<|zVzAd Z Z<|zVzAi Z<|z6<|zRg<|zVzAd Z Z<|zVzMi Z<|z6 ?_
          exact ⟨m + 1, ⟨rfl, rfl, rfl, rfl, rfl, rfl, trivial⟩, ⟨rfl, congrArg (AV.int .i64) (by rw [hs2]; omega), trivial⟩, ⟨_, (.drop (.refl _)), rfl⟩, ⟨hm1, by omega, forall_take hm1 hp ⟨by omega, by omega⟩⟩, by omega⟩
       ·obtain rfl : m = f.blocks[k].phis.length := by omega
        rw [qf] at hwp hp
        rw [qf]
        refine y5<|ze<|zSr<|z8 (zf j7 Z Z7 (by decide) Z Z)<|z8 (zp (c := .fro _ _) Zm Z ⟨_, .head⟩ Z)<|zVGvlenM js Z<|zVzMi Z<|z6<|zi<|y7 (γ := Nat) [46, 47, 48, 114, 115] (fun m => [(116, .int .i64 m), (3, .int .i64 (wV f.vars + wBs (f.blocks.take k) + (f.blocks[k].name.size + 10 * (f.blocks[k].phis.length + f.blocks[k].insts.length)) + wP f.blocks[k].phis + wX (f.blocks[k].insts.take m) : Nat))]) (fun m => [(i7, .cells 69 (encBlk f.blocks[k]))]) (fun m => m ≤ f.blocks[k].insts.length ∧ wX (f.blocks[k].insts.take m) ≤ 400 * m ∧ ∀ p ∈ f.blocks[k].insts.take m, p.args.length ≤ 400) (fun m => f.blocks[k].insts.length - m) 0 ⟨Z, (congrArg (AV.int .i64) (by simp [wX] <;> omega)), trivial⟩ zLe (⟨qd _, by simp [wX], by simp⟩) ?_
        rintro m ⟨hm, hwx, hx⟩
        refine zSr<|zVGvlss Z Z<|z6<|ze<|y2 Z (fun cm=>?_) (fun cm=>?_)
        ·have hm1 : m < f.blocks[k].insts.length := by omega
         have hq1 := hb4 _ (qe hm1)
         have hl6 := hq1.lt
         have hs2 := wX_succ hm1
         refine zj<|ze<|zi<|zSr<|z8 (yi js jx Z Z Z (qa (by omega)))<|zVGvloadWF Zn jx Z Z<|zo (cs := [.int .i64 0, .int .i64 0, .raw (.slice none 0 0), .int .i64 0]) Zf Z Z<|fun i11 => zh jx Z Z Z Z Z Z .head Z<|z6<|ze<|ze<|yt (γ := Unit) [3, 11, 46, 47, 48, 114, 115, 116] (fun u => [(127, .bool (decide ((4000 : Int) < (wV f.vars + wBs (f.blocks.take k) + (f.blocks[k].name.size + 10 * (f.blocks[k].phis.length + f.blocks[k].insts.length)) + wP f.blocks[k].phis + wX (f.blocks[k].insts.take m) : Nat)) || decide ((400 : Int) < f.blocks[k].insts[m].args.length)))]) (fun u => [(i11, .cells 61 (encInst f.blocks[k].insts[m])), (i7, .cells 69 (encBlk f.blocks[k]))]) (fun u => True) ?_ (fun _ _ h => h) ?_
         ·refine zRg<|zVzMi Z<|z8 (q7 Z Z)<|zVzMb Z<|zy (s := 122) Z (fun c7=>?_) (fun c7=>?_)
          ·refine z7 Z Z c7<|z7 Z Z c7<|z7 Z Z c7<|z7 Z Z c7<|zVzPt Z c7 Z<|z6 ?_
           exact ⟨(), zR8, ⟨jb (by simp_all <;> grind), trivial⟩, zLe, trivial⟩
          ·refine za Z Z c7<|z8 (zf jh Z ji (by decide) Z Z)<|za Z Z c7<|z8 (zp (c := .fro _ _) jq Z ⟨_, .head⟩ Z)<|za Z Z c7<|zVGvlenM j6 Z<|za Z Z c7<|z8 (q7 Z Z)<|zVzPf Z c7 Z<|z6 ?_
           exact ⟨(), zR8, ⟨jb (by simp_all <;> grind), trivial⟩, zLe, trivial⟩
         ·rintro _ _
          refine y3 Z (fun cp=>?_) (fun cp=>?_)
          ·refine zSr<|zVzAb Z<|z6<|zk<|zm (x := .bool _) Z ?_
           exact ⟨_, rfl, fun h => (by cases h), fun hl => absurd hl (fun hl => by obtain ⟨_, _, _, _, h4⟩ := hl.2.2.2.2.1 _ (qe hk1); have h5 := h4 _ (qe hm1); have h9 := little_le hl hk1; have hwb : wB f.blocks[k] = f.blocks[k].name.size + 10 * (f.blocks[k].phis.length + f.blocks[k].insts.length) + wP f.blocks[k].phis + wX f.blocks[k].insts := rfl; have h10 := wX_take f.blocks[k].insts m; simp only [Bool.or_eq_true, qq] at cp; omega)⟩
          ·rcases Bool.or_eq_false_iff.1 cp with ⟨a1, a2⟩
           have a2 := of_decide_eq_false a2
           refine zj<|zRg<|zVzMi Z<|z8 (zf jh Z ji (by decide) Z Z)<|z8 (zp (c := .fro _ _) jq Z ⟨_, .head⟩ Z)<|zVGvlenM j6 Z<|zVzAd Z Z<|zVzAi Z<|z6<|zRg<|zVzAd Z Z<|zVzMi Z<|z6 ?_
           exact ⟨m + 1, zR5, ⟨rfl, congrArg (AV.int .i64) (by rw [hs2]; omega), trivial⟩, ⟨_, (.drop (.refl _)), rfl⟩, ⟨hm1, by omega, forall_take hm1 hx (by omega)⟩, by omega⟩
        ·obtain rfl : m = f.blocks[k].insts.length := by omega
         rw [qf] at hwx hx
         rw [qf]
         refine y5<|zSr<|zVzMi Z<|z8 (q7 Z Z)<|z6<|y2 Z (fun cz=>?_) (fun cz=>?_)
         ·refine zSr<|zVzAb Z<|z6<|zk<|zm (x := .bool _) Z ?_
          exact ⟨_, rfl, fun h => (by cases h), fun hl => absurd hl (fun hl => by have h9 := little_le hl hk1; have hwb : wB f.blocks[k] = f.blocks[k].name.size + 10 * (f.blocks[k].phis.length + f.blocks[k].insts.length) + wP f.blocks[k].phis + wX f.blocks[k].insts := rfl; omega)⟩
         ·have hwb : wB f.blocks[k] = f.blocks[k].name.size + 10 * (f.blocks[k].phis.length + f.blocks[k].insts.length) + wP f.blocks[k].phis + wX f.blocks[k].insts := rfl
          refine zj<|zRg<|zVzAd Z Z<|zVzMi Z<|z6 ?_
          exact ⟨k + 1, zR2, ⟨rfl, congrArg (AV.int .i64) (by rw [hs]; omega), trivial⟩, ⟨_, (.drop (.refl _)), rfl⟩, ⟨hk1, by omega, by omega, forall_take hk1 hb ⟨hsb.1, hsb.2.1, hsb.2.2, hp, hx⟩⟩, by omega⟩
    ·obtain rfl : k = f.blocks.length := by omega
     rw [qf] at hw2 hw3 hb
     refine y5<|zSr<|zVzAb Z<|z6<|zk<|zm (x := .bool _) Z ?_
     exact ⟨_, rfl, fun _ => ⟨hsz.1, hsz.2.1, hsz.2.2, hv, hb, fun hne => hw2 (List.length_pos_iff.2 hne)⟩, fun _ => rfl⟩
theorem lawShaped2_spec (f : PFunc) (hf : okFunc f) (hn : okNames f) (hL : Letters E) : AFun prog E 38 [.agg (encF f)] (.bool (decide (ShapedP f))) := by
 refine zt func38 Z (by decide) Z<|zSr<|yc (cs := _) Z Z Z<|zVzAb Z<|z6<|zSr<|zVGvloadWF jp j9 Z Z<|zg (refShaped_spec _ (by assumption) (by assumption) hL) Z<|zVzAb Z<|z6<|zk<|zm (x := .bool _) Z ?_
 rfl
noncomputable def fewB (f : PFunc) : Bool := @decide (little f) (Classical.propDecidable _)
theorem fewB_iff (f : PFunc) : fewB f = true ↔ little f := by unfold fewB; exact @decide_eq_true_iff _ (Classical.propDecidable _)
theorem fewT_spec (f : PFunc) (hf : wFunc f) : AFun prog E 8 [.agg (encF f)] (.bool (fewB f)) :=
 (fewIff_spec f hf).mono fun x O' ⟨b, e, h⟩ => by
  rw [e]
  congr 1
  rw [Bool.eq_iff_iff, h, fewB_iff]
theorem lawTyped8_spec (f : PFunc) (hf : small f) (hL : Letters E) : AFun prog E 17 [.agg (encF f)] (.bool (typedB f)) := by
 have hs := lawShaped2_spec (E := E) f hf.ok hf.names hL
 refine zt func17 Z (by decide) Z<|zSr<|yc (cs := _) Z Z Z<|zVzAb Z<|z6<|zSr<|zVGvloadWF jp j9 Z Z<|zg (hs) Z ?_
 by_cases g4 : ShapedP f
 ·refine zVzMb Z<|za Z Z (qm g4)<|zVGvloadWF jp j9 Z Z<|za Z Z (qm g4)<|zg (refTyped_spec f hf g4) Z<|z8 (zPt Z (qm g4) Z)<|zVzAb Z<|z6<|zk<|zm (x := .bool _) Z ?_
  exact jb (by unfold typedB; rw [shapedB_eq, qm g4]; rfl)
 ·refine zVzMb Z<|z7 Z Z (qn g4)<|z7 Z Z (qn g4)<|z8 (zPf Z (qn g4) Z)<|zVzAb Z<|z6<|zk<|zm (x := .bool _) Z ?_
  exact jb (by unfold typedB; rw [shapedB_eq, qn g4]; rfl)
theorem lawTyped_spec (f : PFunc) (hw : wFunc f) (hL : Letters E) : AFun prog E 20 [.agg (encF f)] (.bool (fewB f && typedB f)) := by
 refine zt func20 Z (by decide) Z<|zSr<|yc (cs := _) Z Z Z<|zVzAb Z<|z6<|zSr<|zVGvloadWF jp j9 Z Z<|zg (fewT_spec f hw) Z<|zVzMb Z<|zy (s := 5) Z (fun g=>?_) (fun g=>?_)
 ·refine za Z Z g<|zVGvloadWF jp j9 Z Z<|za Z Z g<|zg (lawTyped8_spec f ((fewB_iff f).1 g).small hL) Z<|zVzPt Z g Z<|zVzAb Z<|z6<|zk<|zm (x := .bool _) Z ?_
  exact jb (by rw [g]; rfl)
 ·refine z7 Z Z g<|z7 Z Z g<|zVzPf Z g Z<|zVzAb Z<|z6<|zk<|zm (x := .bool _) Z ?_
  exact jb (by rw [g]; rfl)
end Go.Proofs.YtpojdepccecpgaaGreatDoor
namespace Go.Proofs.YtpojdepccecpgaaGreatDoor
open Go.Proofs.Tryz
end Go.Proofs.YtpojdepccecpgaaGreatDoor
namespace Go.Proofs.YtpojdepccecpgaaGreatDoor
open Go.Proofs.Tryz
open Go.Proofs Go.Lib Go.Shelf Go.RowKit
variable {E : World}
set_option maxRecDepth 20000
theorem indexZ_spec (xs : List Int) (v : Int) (hl : xs.length ≤ 281474976710656) : AFun prog E 122 [.fro 1 (xs.map encI), .int .i64 v] (.int .i64 (firstI (fun x => decide (v = x)) xs 0)) := by
 refine zt func122 Z (by decide) Z<|zSr<|zVzAi Z<|z6<|ze<|zSr<|zVzMf Z<|zVGvlenM j6 Z<|zVzMi Z<|z6<|zi<|y7 (γ := Nat) [0, 1, 7] (fun k => [(8, .int .i64 k)]) (fun k => []) (fun k => k ≤ xs.length ∧ (xs.take k).all (fun x => !decide (v = x))) (fun k => xs.length - k) 0 zR1 zLe (⟨qd _, Z⟩) ?_
 rintro k ⟨hk, hall⟩
 refine zSr<|zVGvlss Z Z<|z6<|ze<|y2 Z (fun ck=>?_) (fun ck=>?_)
 ·have hk2 : k < xs.length := by simp at ck; omega
  refine zj<|ze<|zi<|zSr<|zVzMi Z<|zVzAi Z<|z6<|zSr<|zVzMi Z<|zVzMf Z<|zVzMi Z<|z8 (zIM k j6 j8 Z Z Z (qa hk2))<|zVzLi jl Z<|zVGveqlI Z Z<|z6<|y3 Z (fun cp=>?_) (fun cp=>?_)
  ·refine zSr<|zVzMi Z<|zVzAi Z<|z6<|zk<|zm (x := .int _ _) Z ?_
   rw [firstI_drop _ xs k hk hall, List.drop_eq_getElem_cons hk2, firstI, if_pos (by simpa using cp)]
  ·refine zj<|zRg<|zVzAd Z Z<|zVzMi Z<|z6 ?_
   exact ⟨k + 1, zR3, zR1, zLe, ⟨hk2, by rw [qb hk2, List.all_append, hall]; simpa using cp⟩, by omega⟩
 ·have hkn : k = xs.length := by simp at ck; omega
  refine y5<|zSr<|zVzAi Z<|z6<|zk<|zm (x := .int _ _) Z ?_
  rw [firstI_drop _ xs k hk hall, hkn, List.drop_length, firstI]
theorem containsZ_spec (xs : List Int) (v : Int) (hl : xs.length ≤ 281474976710656) : AFun prog E 85 [.fro 1 (xs.map encI), .int .i64 v] (.bool (xs.contains v)) := by
 refine zt func85 Z (by decide) Z<|zSr<|zVzAb Z<|z6<|zSr<|zVzMf Z<|zVzMi Z<|zg (indexZ_spec xs v hl) Z<|z8 (Gv.geq Z Z)<|zVzAb Z<|z6<|zk<|zm (x := .bool _) Z ?_
 rw [firstI_ge]; congr 1; rw [Bool.eq_iff_iff]; simp
end Go.Proofs.YtpojdepccecpgaaGreatDoor
