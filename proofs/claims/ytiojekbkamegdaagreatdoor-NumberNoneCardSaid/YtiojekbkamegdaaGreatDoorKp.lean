/- The document's typed; the laws' typed, single and plain. Of programs that are little. -/
import Derived.Test.YtiojekbkamegdaaGreatDoorKo
set_option linter.unusedVariables false
set_option linter.unusedSimpArgs false
set_option linter.unusedSectionVars false
namespace Go.Proofs.YtiojekbkamegdaaGreatDoor
open Go.Proofs.Tryz
open Go.Proofs Go.Lib Go.Shelf Go.RowKit
variable {E : World}
set_option maxRecDepth 20000
theorem want_1 {f : PFunc} {x : PInst} {m : Nat} (e : x.op = 1) (h : m < (wantL f x).length) : (wantL f x)[m] = kindV f x.dst := by
 have h2 : (wantL f x)[m]? = some (kindV f x.dst) := by
  unfold wantL at h ⊢
  rw [if_pos e] at h ⊢
  simp at h
  subst h; rfl
 rw [qd h] at h2
 exact Option.some.inj h2
theorem want_2 {f : PFunc} {x : PInst} {m : Nat} (e : ¬ x.op = 1) (h : m < (wantL f x).length) (h' : m < (takesL x.op).length) : (wantL f x)[m] = (takesL x.op)[m] := by
 have h2 : (wantL f x)[m]? = some ((takesL x.op)[m]) := by
  unfold wantL
  rw [if_neg e, qd h']
 rw [qd h] at h2
 exact Option.some.inj h2
theorem term_kind {f : PFunc} {t : PTerm} (h : termOK f t = true) : t.kind = 0 ∨ t.kind = 1 ∨ t.kind = 2 := by
 unfold termOK at h
 by_cases h0 : t.kind = 0
 ·exact .inl h0
 ·rw [if_neg h0] at h
  by_cases h1 : t.kind = 1
  ·exact .inr (.inl h1)
  ·rw [if_neg h1] at h
   by_cases h2 : t.kind = 2
   ·exact .inr (.inr h2)
   ·rw [if_neg h2] at h; cases h
set_option maxHeartbeats 8000000 in
theorem refTyped_spec (f : PFunc) (hf : small f) (hS : ShapedP f) : AFun prog E 50 [.agg (encF f)] (.bool (f.blocks.all (blkT f))) := by
 have hn := hf.2.2.1
 refine zo func50 Z (by decide) Z<|zSr<|y9 (cs := _) Z Z Z<|zVzAb Z<|z6<|za<|zSr<|zVzFF j9 Z jp Z Z<|zVzLf jt Z<|zVGvlenM jf Z<|zVzMi Z<|z6<|zg<|zx (γ := Nat) [1, 16, 17] (fun i => [(18, .int .i64 i)]) (fun i => []) (fun i => i ≤ f.blocks.length ∧ (f.blocks.take i).all (blkT f) = true) (fun i => f.blocks.length - i) 0 zR1 zLe (⟨qg _, Z⟩) ?_
 rintro i ⟨hi, hall⟩
 refine zSr<|zVGvlss Z Z<|z6<|za<|zq Z (fun ci=>?_) (fun ci=>?_)
 ·have hi2 : i < f.blocks.length := by simp at ci; omega
  obtain ⟨b, hbi⟩ : ∃ b, f.blocks[i] = b := ⟨_, rfl⟩
  have hget : f.blocks[i]? = some b := by rw [qd hi2, hbi]
  have hmem : b ∈ f.blocks := hbi ▸ qh hi2
  obtain ⟨hb0, hb1, hb2, hb3, hb4⟩ := hf.2.2.2.2 b hmem
  obtain ⟨hPh, hIn, hTm⟩ := hS.2.2.2.2.2 b hmem
  have hbad : blkT f b = false → f.blocks.all (blkT f) = false := fun h => Bool.eq_false_iff.2 (all_bad hi2 (by rw [hbi]; exact h))
  refine ze<|za<|zg<|zSr<|z8 (zIM i jf jk Z Z Z hget)<|zVGvloadWF Zk jk Z Z<|zz (cs := [.str ⟨#[]⟩, .raw (.slice none 0 0), .raw (.slice none 0 0), .int .i64 0, .int .i64 0, .int .i64 0, .int .i64 0]) ju Z Z<|fun i4 => zu jk Z Z Z Z Z Z .head Z<|zd (ye (t := 4) Z .head)<|z6<|za<|zSr<|zVzFF j7 Z Z4 Z Z<|zVzLf Zj Z<|zVGvlenM jl Z<|zVzMi Z<|z6<|zg<|zx (γ := Nat) [1, 4, 16, 17, 18, 23, 24] (fun j => [(25, .int .i64 j)]) (fun j => []) (fun j => j ≤ b.phis.length ∧ (b.phis.take j).all (phiT f) = true) (fun j => b.phis.length - j) 0 zR1 zLe (⟨qg _, Z⟩) ?_
  rintro j ⟨hj, hjall⟩
  refine zSr<|zVGvlss Z Z<|z6<|za<|zq Z (fun cj=>?_) (fun cj=>?_)
  ·have hj2 : j < b.phis.length := by simp at cj; omega
   obtain ⟨p, hp⟩ : ∃ p, b.phis[j] = p := ⟨_, rfl⟩
   have hpm : p ∈ b.phis := hp ▸ qh hj2
   obtain ⟨hpd, hpl, hpn, hpa, hpf⟩ := hPh p hpm
   have hpb := (hb3 p hpm).1
   refine ze<|za<|zg<|zSr<|z8 (zIM j jl jo Z Z Z (by rw [qd hj2, hp])) ?_
   refine zVGvloadWF Zs jo Z Z<|zz (cs := [.int .i64 0, .raw (.slice none 0 0), .raw (.slice none 0 0)]) Z3 Z Z<|fun i6 => zu jo Z Z Z Z Z Z .head Z<|zd (ye (t := 6) Z .head)<|z6<|zSr<|zVzFF jj Z j8 Z Z<|zVzLf jg Z<|zVGvlenM j4 Z<|zVzMi Z<|z6<|zg<|zx (γ := Nat) [1, 4, 6, 16, 17, 18, 23, 24, 25, 30, 31] (fun k => [(32, .int .i64 k)]) (fun k => []) (fun k => k ≤ p.args.length ∧ (p.args.take k).all (fun v => decide (kindV f v = kindV f p.dst)) = true) (fun k => p.args.length - k) 0 zR1 zLe (⟨qg _, Z⟩) ?_
   rintro k ⟨hk, hkall⟩
   refine zSr<|zVGvlss Z Z<|z6<|za<|zq Z (fun ck=>?_) (fun ck=>?_)
   ·have hk2 : k < p.args.length := by simp at ck; omega
    obtain ⟨v, hv⟩ : ∃ v, p.args[k] = v := ⟨_, rfl⟩
    have hvv := List.all_eq_true.1 hpa v (hv ▸ qh hk2)
    refine ze<|za<|zg<|zSr<|z8 (zIM k j4 j5 Z Z Z (by rw [qd hk2, hv])) ?_
    refine zVzLi jd Z<|zVzAi Z<|z6<|za<|y8 (fun j => false) (by kernel_rfl) Z (zp (.rest _))<|zTk 0 Z (yk ji je Z Z)<|zTk 1 Z (zMi Z)<|zTk 3 Z (yk ji je Z Z)<|zTk 4 Z (zFF jj Z j5 Z Z)<|zTk 5 Z (zLi jd Z)<|zOn 2 Z<|zk (rof_spec f v hvv) Z<|z6<|zOn 6 Z<|zk (rof_spec f p.dst hpd) Z<|z6<|zTk 7 Z (Gv.neqI Z Z)<|zDn<|zr Z (fun cq=>?_) (fun cq=>?_)
    ·have hq : ¬ kindV f v = kindV f p.dst := by simpa using cq
     have hph : phiT f p = false := by
      unfold phiT
      rw [show (p.args.any fun v => !decide (kindV f v = kindV f p.dst)) = true from List.any_eq_true.2 ⟨v, hv ▸ qh hk2, by simp [hq]⟩]; rfl
     refine zSr<|zVzAb Z<|z6<|zi<|zj (x := .bool _) Z ?_
     rw [hbad (by unfold blkT; rw [show b.phis.all (phiT f) = false from Bool.eq_false_iff.2 (all_bad hj2 (by rw [hp]; exact hph))]; rfl)]
    ·have hq : kindV f v = kindV f p.dst := by simpa using cq
     refine ze<|zRg<|zVzAd Z Z<|zVzMi Z<|z6 ?_
     exact ⟨k + 1, ⟨rfl, rfl, rfl, rfl, rfl, rfl, rfl, rfl, rfl, rfl, rfl, trivial⟩, zR1, zLe, ⟨hk2, all_take hk2 hkall (by rw [hv]; simp [hq])⟩, by omega⟩
   ·have hkn : k = p.args.length := by simp at ck; omega
    rw [hkn, qi] at hkall
    have hph : phiT f p = true := by
     unfold phiT
     rw [show (p.args.any fun v => !decide (kindV f v = kindV f p.dst)) = false from List.any_eq_false.2 fun v hv => by have := List.all_eq_true.1 hkall v hv; simpa using this]; rfl
    refine zw<|zRg<|zVzAd Z Z<|zVzMi Z<|z6 ?_
    exact ⟨j + 1, zR7, zR1, zLe, ⟨hj2, all_take hj2 hjall (by rw [hp]; exact hph)⟩, by omega⟩
  ·have hjn : j = b.phis.length := by simp at cj; omega
   subst hjn
   rw [qi] at hjall
   refine zw<|za<|zSr<|zVzFF j7 Z jv Z Z<|zVzLf Z5 Z<|zVGvlenM jh Z<|zVzMi Z<|z6<|zg<|zx (γ := Nat) [1, 4, 16, 17, 18, 47, 48] (fun k => [(49, .int .i64 k)]) (fun k => []) (fun k => k ≤ b.insts.length ∧ (b.insts.take k).all (instT f) = true) (fun k => b.insts.length - k) 0 zR1 zLe (⟨qg _, Z⟩) ?_
   rintro k ⟨hk, hkall⟩
   refine zSr<|zVGvlss Z Z<|z6<|za<|zq Z (fun ck=>?_) (fun ck=>?_)
   ·have hk2 : k < b.insts.length := by simp at ck; omega
    obtain ⟨z, hz⟩ : ∃ z, b.insts[k] = z := ⟨_, rfl⟩
    have hzm : z ∈ b.insts := hz ▸ qh hk2
    have hI := instP_F (hIn z hzm)
    have hzl := hb4 z hzm
    have hwl := wantL_len hI
    have hdst : makesB z.op = true → hasV f z.dst = true := fun h => by
     rcases hI.dst with ⟨d1, _⟩ | ⟨_, _, d3⟩
     ·rw [h] at d1; cases d1
     ·exact d3
    have hcopy : z.op = 1 → makesB z.op = true := fun h => by rw [h]; rfl
    have hib : instT f z = false → f.blocks.all (blkT f) = false := fun h => hbad (by unfold blkT; rw [hjall, show b.insts.all (instT f) = false from Bool.eq_false_iff.2 (all_bad hk2 (by rw [hz]; exact h))]; rfl)
    refine ze<|za<|zg<|zSr<|z8 (zIM k jh jm Z Z Z (by rw [qd hk2, hz])) ?_
    refine zVGvloadWF Zh jm Z Z<|zz (cs := [.int .i64 0, .int .i64 0, .raw (.slice none 0 0), .int .i64 0]) jz Z Z<|fun i10 => zu jm Z Z Z Z Z Z .head Z<|zd (ye (t := 10) Z .head)<|z6<|za<|yo (γ := Nat) [1, 4, 10, 16, 17, 18, 47, 48, 49] (fun g => [(11, .po g 0)]) (fun g => [(g, .cells 170 (encK (kRow z.op)))]) (fun g => True) ?_ (fun _ _ h => h) ?_
    ·refine y8 (fun j => false) (by kernel_rfl) Z (zp (.rest _))<|zTk 1 Z (zFF j6 Z Z1 Z Z)<|zTk 2 Z (zLi Za Z)<|yl (i := 0) (j := 5) Z Z (by kernel_rfl) ?_ ?_
     ·refine zk (rows_spec) Z<|z6<|zTk 3 Z (zIM z.op.toNat underlying171 Zr Z Z (by have := hI.op; omega) (kRow_get hI.op))<|zTk 4 Z (yk isAgg170 Zr Z Z)<|zOn 5 Z<|zz (cs := [.str ⟨#[]⟩, .str ⟨#[]⟩, .str ⟨#[]⟩]) Y2 Z Z<|fun i11 => z6<|zOn 6 Z<|zu Zr Z Z Z Z Z Z .head Z<|z6<|zDn ?_
      exact ⟨i11, zR9, zR1, zLe, trivial⟩
     ·refine zz (cs := [.str ⟨#[]⟩, .str ⟨#[]⟩, .str ⟨#[]⟩]) Y2 Z Z<|fun i11 => z6<|zOn 0 Z<|zk (rows_spec) Z<|z6<|zTk 3 Z (zIM z.op.toNat underlying171 Zr Z Z (by have := hI.op; omega) (kRow_get hI.op))<|zTk 4 Z (yk isAgg170 Zr Z Z)<|zOn 6 Z<|zu Zr Z Z Z Z Z Z .head Z<|z6<|zDn ?_
      exact ⟨i11, zR9, zR1, zLe, trivial⟩
    ·rintro i11 _
     refine za<|zSr<|zVzFF j6 Z j8 Z Z<|zVzLf jg Z<|zVGvlenM j4 Z<|zVzMi Z<|z6<|zg<|zx (γ := Nat) [1, 4, 10, 11, 16, 17, 18, 47, 48, 49, 60] (fun m => [(61, .int .i64 m)]) (fun m => [(i11, .cells 170 (encK (kRow z.op)))]) (fun m => m ≤ z.args.length ∧ (z.args.take m).map (kindV f) = (wantL f z).take m) (fun m => z.args.length - m) 0 zR1 zLe (⟨qg _, by simp⟩) ?_
     rintro m ⟨hm, hmall⟩
     refine zSr<|zVGvlss Z Z<|z6<|za<|zq Z (fun cm=>?_) (fun cm=>?_)
     ·have hm2 : m < z.args.length := by simp at cm; omega
      have hmw : m < (wantL f z).length := by omega
      have hmt : m < (takesL z.op).length := by have := hI.len; omega
      obtain ⟨v, hv⟩ : ∃ v, z.args[m] = v := ⟨_, rfl⟩
      have hvv := hI.args v (hv ▸ qh hm2)
      obtain ⟨c, hc, hct⟩ := takes_byte hmt
      have hbadm : ¬ kindV f v = (wantL f z)[m] → f.blocks.all (blkT f) = false := fun h => hib (by rw [instT_want hI, qq (map_ne hm2 hmw (by rw [hv]; exact h))]; rfl)
      refine ze<|za<|zg<|zSr<|zVzMi Z<|zVzAi Z<|z6<|zSr<|z8 (zl Zc Z Z7 (by decide) Z Z)<|z8 (zm (c := .str _) Zi Z ⟨_, .head⟩ Z)<|zVzMi Z<|z8 (Gv.indexT (j := m) Z2 Z Z Z hc)<|zk (rtype_spec (c.toNat : Int)) Z<|zVzAi Z<|z6<|za<|zSr<|z8 (zl Zc Z Z7 (by decide) Z Z)<|z8 (zm (c := .str _) Zi Z ⟨_, .head⟩ Z)<|z8 (Gv.eqlT Z Z)<|z6<|zr Z (fun cw=>?_) (fun cw=>?_)
      ·have ew : z.op = 1 := (copy_op hI.op).1 (by simpa using cw)
       refine zRg<|zVGvloadWF ji je Z Z<|zVzFF j6 Z j5 Z Z<|zVzLi jd Z<|zk (rof_spec f z.dst (hdst (hcopy ew))) Z<|zVzAi Z<|z6<|za<|y8 (fun j => false) (by kernel_rfl) Z (zp (.rest _))<|zTk 0 Z (yk ji je Z Z)<|zTk 1 Z (zFF j6 Z j8 Z Z)<|zTk 2 Z (zLf jg Z)<|zTk 3 Z (zMi Z)<|zTk 4 Z (zIM m j4 j5 Z Z Z (by rw [qd hm2, hv])) ?_
       refine zTk 5 Z (zLi jd Z)<|zTk 7 Z (zMi Z)<|zOn 6 Z<|zk (rof_spec f v hvv) Z<|z6<|zTk 8 Z (Gv.neqI Z Z)<|zDn<|zr Z (fun cq=>?_) (fun cq=>?_)
       ·have hq : ¬ kindV f v = kindV f z.dst := by simpa using cq
        refine zSr<|zVzAb Z<|z6<|zi<|zj (x := .bool _) Z ?_
        rw [hbadm (by rw [want_1 ew hmw]; exact hq)]
       ·have hq : kindV f v = kindV f z.dst := by simpa using cq
        refine ze<|zRg<|zVzAd Z Z<|zVzMi Z<|z6 ?_
        exact ⟨m + 1, ⟨rfl, rfl, rfl, rfl, rfl, rfl, rfl, rfl, rfl, rfl, rfl, trivial⟩, zR1, zLe, ⟨hm2, map_take_succ hm2 hmw hmall (by rw [hv, want_1 ew hmw]; exact hq)⟩, by omega⟩
      ·have ew : ¬ z.op = 1 := fun e => by have := (copy_op hI.op).2 e; simp [this] at cw
       refine ze<|za<|y8 (fun j => false) (by kernel_rfl) Z (zp (.rest _))<|zTk 0 Z (yk ji je Z Z)<|zTk 1 Z (zFF j6 Z j8 Z Z)<|zTk 2 Z (zLf jg Z)<|zTk 3 Z (zMi Z)<|zTk 4 Z (zIM m j4 j5 Z Z Z (by rw [qd hm2, hv])) ?_
       refine zTk 5 Z (zLi jd Z)<|zTk 7 Z (zMi Z)<|zOn 6 Z<|zk (rof_spec f v hvv) Z<|z6<|zTk 8 Z (Gv.neqI Z Z)<|zDn<|zr Z (fun cq=>?_) (fun cq=>?_)
       ·have hq : ¬ kindV f v = typeOf (c.toNat : Int) := by simpa using cq
        refine zSr<|zVzAb Z<|z6<|zi<|zj (x := .bool _) Z ?_
        rw [hbadm (by rw [want_2 ew hmw hmt, hct]; exact hq)]
       ·have hq : kindV f v = typeOf (c.toNat : Int) := by simpa using cq
        refine ze<|zRg<|zVzAd Z Z<|zVzMi Z<|z6 ?_
        exact ⟨m + 1, ⟨rfl, rfl, rfl, rfl, rfl, rfl, rfl, rfl, rfl, rfl, rfl, trivial⟩, zR1, zLe, ⟨hm2, map_take_succ hm2 hmw hmall (by rw [hv, want_2 ew hmw hmt, hct]; exact hq)⟩, by omega⟩
     ·have hmn : m = z.args.length := by simp at cm; omega
      have hall2 : z.args.map (kindV f) = wantL f z := by rw [hmn, qi, hwl, qi] at hmall; exact hmall
      have hiw := instT_want hI
      rw [qp hall2, Bool.true_and] at hiw
      refine zw<|za<|y8 (fun j => false) (by kernel_rfl) Z (zp (.r (.rest _)))<|zTk 0 Z (zl Zc Z Z7 (by decide) Z Z)<|zTk 1 Z (zm (c := .str _) Zi Z ⟨_, .head⟩ Z)<|zTk 2 Z (Gv.neqT Z Z)<|zTk 3 Z (zMb Z)<|AAny.case (s := 89) Z (fun c1=>?_) (fun c1=>?_)
      ·have d1 : ¬ (kRow z.op).2.2 = ⟨#[]⟩ := by simpa using c1
       have dm : makesB z.op = true := by rw [makesB_eq, qq d1]; rfl
       obtain ⟨c, hc, hct⟩ := makes_byte d1
       refine zTt 4 Z Z Z c1 (zl Zc Z Z7 (by decide) Z Z)<|zTt 5 Z Z Z c1 (zm (c := .str _) Zi Z ⟨_, .head⟩ Z)<|zTt 6 Z Z Z c1 (Gv.neqT Z Z)<|zTk 7 Z (zPt Z c1 Z)<|zTk 8 Z (zMb Z)<|AAny.case (s := 94) Z (fun c2=>?_) (fun c2=>?_)
       ·have ew : ¬ z.op = 1 := fun e => by have := (copy_op hI.op).2 e; simp [this] at c2
        refine zTt 9 Z Z Z c2 (yk ji je Z Z)<|zTt 10 Z Z Z c2 (zFF j6 Z j5 Z Z)<|zTt 11 Z Z Z c2 (zLi jd Z)<|zTt 13 Z Z Z c2 (zl Zc Z Z7 (by decide) Z Z)<|zTt 14 Z Z Z c2 (zm (c := .str _) Zi Z ⟨_, .head⟩ Z)<|zTt 15 Z Z Z c2 (Gv.indexT (j := 0) Z2 Z Z Z hc)<|zOn 12 Z<|z7 Z Z c2<|zk (rof_spec f z.dst (hdst dm)) Z<|z6<|zOn 16 Z<|z7 Z Z c2<|zk (rtype_spec (c.toNat : Int)) Z<|z6<|zTt 17 Z Z Z c2 (Gv.neqI Z Z)<|zTk 18 Z (zPt Z c2 Z)<|zDn<|zr Z (fun cq=>?_) (fun cq=>?_)
        ·have hq : ¬ kindV f z.dst = typeOf (c.toNat : Int) := by simpa using cq
         refine zSr<|zVzAb Z<|z6<|zi<|zj (x := .bool _) Z ?_
         rw [hib (by rw [hiw, dm, qq ew, hct, qq hq]; rfl)]
        ·have hq : kindV f z.dst = typeOf (c.toNat : Int) := by simpa using cq
         refine ze<|zRg<|zVzAd Z Z<|zVzMi Z<|z6 ?_
         exact ⟨k + 1, zR7, zR1, ⟨_, (.drop (.refl _)), rfl⟩, ⟨hk2, all_take hk2 hkall (by rw [hz, hiw, hct, qp hq]; simp)⟩, by omega⟩
       ·have ew : z.op = 1 := (copy_op hI.op).1 (by simpa using c2)
        refine zTf 9 Z Z Z c2<|zTf 10 Z Z Z c2<|zTf 11 Z Z Z c2<|zTf 12 Z Z Z c2<|zTf 13 Z Z Z c2<|zTf 14 Z Z Z c2<|zTf 15 Z Z Z c2<|zTf 16 Z Z Z c2<|zTf 17 Z Z Z c2<|zTk 18 Z (zPf Z c2 Z)<|zDn<|yg Z Z<|ze<|zRg<|zVzAd Z Z<|zVzMi Z<|z6 ?_
        exact ⟨k + 1, zR7, zR1, ⟨_, (.drop (.refl _)), rfl⟩, ⟨hk2, all_take hk2 hkall (by rw [hz, hiw, qp ew]; simp)⟩, by omega⟩
      ·have d1 : (kRow z.op).2.2 = ⟨#[]⟩ := by simpa using c1
       have dm : makesB z.op = false := by rw [makesB_eq, qp d1]; rfl
       refine zTf 4 Z Z Z c1<|zTf 5 Z Z Z c1<|zTf 6 Z Z Z c1<|zTk 7 Z (zPf Z c1 Z)<|zTk 8 Z (zMb Z)<|zTf 9 Z Z Z Z<|zTf 10 Z Z Z Z<|zTf 11 Z Z Z Z<|zTf 12 Z Z Z Z<|zTf 13 Z Z Z Z<|zTf 14 Z Z Z Z<|zTf 15 Z Z Z Z<|zTf 16 Z Z Z Z<|zTf 17 Z Z Z Z<|zTk 18 Z (zPf Z Z Z)<|zDn<|yg Z Z<|ze<|zRg<|zVzAd Z Z<|zVzMi Z<|z6 ?_
       exact ⟨k + 1, zR7, zR1, ⟨_, (.drop (.refl _)), rfl⟩, ⟨hk2, all_take hk2 hkall (by rw [hz, hiw, dm]; rfl)⟩, by omega⟩
   ·have hkn : k = b.insts.length := by simp at ck; omega
    rw [hkn, qi] at hkall
    refine zw<|zSr<|zVzFF j7 Z jy Z Z<|zVGvloadWF isAgg56 jy Z Z<|zz (cs := [.int .i64 0, .int .i64 0, .int .i64 0, .int .i64 0]) zeroValue56 Z Z<|fun i14 => zu jy Z Z Z Z Z Z .head Z<|zd (ye (t := 14) Z .head)<|z6<|za<|yo (γ := Bool) [1, 16, 17, 18] (fun u => [(152, .bool u)]) (fun u => []) (fun u => u = !termT f b.term) ?_ (fun _ _ h => h) ?_
    ·have hk3 := term_kind hTm
     refine zRg<|zVzFF jc Z Zg Z Z<|zVzLi Zl Z<|zVGveqlI Z Z<|zVzMb Z<|zn (s := 111) Z (fun c1=>?_) (fun c1=>?_)
     ·refine z7 Z Z c1<|zVGvloadWF ji je Z Z<|z7 Z Z c1<|zVzFF jc Z j5 Z Z<|z7 Z Z c1<|zVzLi jd Z<|z7 Z Z c1<|zk (rof_spec f b.term.var (term_var hTm (by simp_all))) Z<|z7 Z Z c1<|zVGvneqI Z Z<|zVzPt Z c1 Z<|zVzMb Z<|zn (s := 118) Z (fun c2=>?_) (fun c2=>?_)
      ·refine z2 Z Z c2<|z2 Z Z c2<|z2 Z Z c2<|z2 Z Z c2<|zh Z Z<|zh Z Z<|zh Z Z<|zh Z Z<|zh Z Z<|zh Z Z<|zh Z Z<|zh Z Z<|zh Z Z<|zh Z Z<|zh Z Z<|zh Z Z<|zh Z Z<|zh Z Z<|zh Z Z<|zh Z Z<|zh Z Z<|z2 Z Z c2<|zVzPt Z c2 Z<|zVzMb Z<|z2 Z Z Z<|z2 Z Z Z<|z2 Z Z Z<|z2 Z Z Z<|zh Z Z<|zh Z Z<|zh Z Z<|zh Z Z<|z2 Z Z Z<|zVzPt Z Z Z<|z6 ?_
       exact ⟨_, zR4, zR1, zLe, by simp_all [termT] <;> omega⟩
      ·refine z7 Z Z c2<|zVzFF jc Z Zg Z Z<|z7 Z Z c2<|zVzLi Zl Z<|z7 Z Z c2<|zVGveqlI Z Z<|z7 Z Z c2<|zVzMb Z<|zn (s := 122) Z (fun c3=>?_) (fun c3=>?_)
       ·refine z7 Z Z c3<|zVGvloadWF ji je Z Z<|z7 Z Z c3<|zVzFF jc Z j5 Z Z<|z7 Z Z c3<|zVzLi jd Z<|z7 Z Z c3<|zk (rof_spec f b.term.var (term_var hTm (by simp_all))) Z<|z7 Z Z c3<|zVGvneqI Z Z<|z7 Z Z c3<|zVzMb Z<|zn (s := 128) Z (fun c4=>?_) (fun c4=>?_)
        ·refine z2 Z Z c4<|z2 Z Z c4<|z2 Z Z c4<|z2 Z Z c4<|z7 Z Z c3<|zVzPt Z c4 Z<|z7 Z Z c3<|zVzMb Z<|z2 Z Z Z<|z2 Z Z Z<|z2 Z Z Z<|z2 Z Z Z<|z7 Z Z c3<|zVzPt Z Z Z<|z7 Z Z c2<|zVzPt Z c3 Z<|zVzPf Z c2 Z<|zVzMb Z<|z2 Z Z Z<|z2 Z Z Z<|z2 Z Z Z<|z2 Z Z Z<|zh Z Z<|zh Z Z<|zh Z Z<|zh Z Z<|z2 Z Z Z<|zVzPt Z Z Z<|z6 ?_
         exact ⟨_, zR4, zR1, zLe, by simp_all [termT] <;> omega⟩
        ·refine z7 Z Z c4<|zVzFF jc Z jx Z Z<|z7 Z Z c4<|z8 (yr (j := 0) jn j5 Z Z Z (by decide) Z)<|z7 Z Z c4<|zVzLi jd Z<|z7 Z Z c4<|zVGveqlI Z Z<|z7 Z Z c3<|zVzPf Z c4 Z<|z7 Z Z c3<|zVzMb Z<|zn (s := 134) Z (fun c5=>?_) (fun c5=>?_)
         ·refine z2 Z Z c5<|z2 Z Z c5<|z2 Z Z c5<|z2 Z Z c5<|z7 Z Z c3<|zVzPt Z c5 Z<|z7 Z Z c2<|zVzPt Z c3 Z<|zVzPf Z c2 Z<|zVzMb Z<|z2 Z Z Z<|z2 Z Z Z<|z2 Z Z Z<|z2 Z Z Z<|zh Z Z<|zh Z Z<|zh Z Z<|zh Z Z<|z2 Z Z Z<|zVzPt Z Z Z<|z6 ?_
          exact ⟨_, zR4, zR1, zLe, by simp_all [termT] <;> omega⟩
         ·refine z7 Z Z c5<|zVzFF jc Z jx Z Z<|z7 Z Z c5<|z8 (yr (j := 1) jn j5 Z Z Z (by decide) Z)<|z7 Z Z c5<|zVzLi jd Z<|z7 Z Z c5<|zVGveqlI Z Z<|z7 Z Z c3<|zVzPf Z c5 Z<|z7 Z Z c2<|zVzPt Z c3 Z<|zVzPf Z c2 Z<|zVzMb Z<|zn (s := 142) Z (fun c6=>?_) (fun c6=>?_)
          ·refine z2 Z Z c6<|z2 Z Z c6<|z2 Z Z c6<|z2 Z Z c6<|zh Z Z<|zh Z Z<|zh Z Z<|zh Z Z<|z2 Z Z c6<|zVzPt Z c6 Z<|z6 ?_
           exact ⟨_, zR4, zR1, zLe, by simp_all [termT] <;> omega⟩
          ·refine z7 Z Z c6<|zVzFF jc Z Zg Z Z<|z7 Z Z c6<|zVzLi Zl Z<|z7 Z Z c6<|zVGveqlI Z Z<|z7 Z Z c6<|zVzMb Z<|zn (s := 146) Z (fun c7=>?_) (fun c7=>?_)
           ·refine z7 Z Z c7<|zVzFF jc Z jx Z Z<|z7 Z Z c7<|z8 (yr (j := 0) jn j5 Z Z Z (by decide) Z)<|z7 Z Z c7<|zVzLi jd Z<|z7 Z Z c7<|zVGveqlI Z Z<|z7 Z Z c6<|zVzPt Z c7 Z<|zVzPf Z c6 Z<|z6 ?_
            exact ⟨_, zR4, zR1, zLe, by simp_all [termT] <;> omega⟩
           ·refine z2 Z Z c7<|z2 Z Z c7<|z2 Z Z c7<|z2 Z Z c7<|z7 Z Z c6<|zVzPf Z c7 Z<|zVzPf Z c6 Z<|z6 ?_
            exact ⟨_, zR4, zR1, zLe, by simp_all [termT] <;> omega⟩
       ·refine z2 Z Z c3<|z2 Z Z c3<|z2 Z Z c3<|z2 Z Z c3<|z2 Z Z c3<|z2 Z Z c3<|zh Z Z<|zh Z Z<|zh Z Z<|zh Z Z<|z2 Z Z c3<|z2 Z Z c3<|zh Z Z<|zh Z Z<|zh Z Z<|zh Z Z<|z2 Z Z c3<|z7 Z Z c2<|zVzPf Z c3 Z<|zVzPf Z c2 Z<|zVzMb Z<|z7 Z Z Z<|zVzFF jc Z Zg Z Z<|z7 Z Z Z<|zVzLi Zl Z<|z7 Z Z Z<|zVGveqlI Z Z<|z7 Z Z Z<|zVzMb Z<|zn (s := 146) Z (fun c8=>?_) (fun c8=>?_)
        ·refine z7 Z Z c8<|zVzFF jc Z jx Z Z<|z7 Z Z c8<|z8 (yr (j := 0) jn j5 Z Z Z (by decide) Z)<|z7 Z Z c8<|zVzLi jd Z<|z7 Z Z c8<|zVGveqlI Z Z<|z7 Z Z Z<|zVzPt Z c8 Z<|zVzPf Z Z Z<|z6 ?_
         exact ⟨_, zR4, zR1, zLe, by simp_all [termT] <;> omega⟩
        ·refine z2 Z Z c8<|z2 Z Z c8<|z2 Z Z c8<|z2 Z Z c8<|z7 Z Z Z<|zVzPf Z c8 Z<|zVzPf Z Z Z<|z6 ?_
         exact ⟨_, zR4, zR1, zLe, by simp_all [termT] <;> omega⟩
     ·refine z2 Z Z c1<|z2 Z Z c1<|z2 Z Z c1<|z2 Z Z c1<|z2 Z Z c1<|zVzPf Z c1 Z<|zVzMb Z<|z7 Z Z Z<|zVzFF jc Z Zg Z Z<|z7 Z Z Z<|zVzLi Zl Z<|z7 Z Z Z<|zVGveqlI Z Z<|z7 Z Z Z<|zVzMb Z<|zn (s := 122) Z (fun c9=>?_) (fun c9=>?_)
      ·refine z7 Z Z c9<|zVGvloadWF ji je Z Z<|z7 Z Z c9<|zVzFF jc Z j5 Z Z<|z7 Z Z c9<|zVzLi jd Z<|z7 Z Z c9<|zk (rof_spec f b.term.var (term_var hTm (by simp_all))) Z<|z7 Z Z c9<|zVGvneqI Z Z<|z7 Z Z c9<|zVzMb Z<|zn (s := 128) Z (fun c10=>?_) (fun c10=>?_)
       ·refine z2 Z Z c10<|z2 Z Z c10<|z2 Z Z c10<|z2 Z Z c10<|z7 Z Z c9<|zVzPt Z c10 Z<|z7 Z Z c9<|zVzMb Z<|z2 Z Z Z<|z2 Z Z Z<|z2 Z Z Z<|z2 Z Z Z<|z7 Z Z c9<|zVzPt Z Z Z<|z7 Z Z Z<|zVzPt Z c9 Z<|zVzPf Z Z Z<|zVzMb Z<|z2 Z Z Z<|z2 Z Z Z<|z2 Z Z Z<|z2 Z Z Z<|zh Z Z<|zh Z Z<|zh Z Z<|zh Z Z<|z2 Z Z Z<|zVzPt Z Z Z<|z6 ?_
        exact ⟨_, zR4, zR1, zLe, by simp_all [termT] <;> omega⟩
       ·refine z7 Z Z c10<|zVzFF jc Z jx Z Z<|z7 Z Z c10<|z8 (yr (j := 0) jn j5 Z Z Z (by decide) Z)<|z7 Z Z c10<|zVzLi jd Z<|z7 Z Z c10<|zVGveqlI Z Z<|z7 Z Z c9<|zVzPf Z c10 Z<|z7 Z Z c9<|zVzMb Z<|zn (s := 134) Z (fun c11=>?_) (fun c11=>?_)
        ·refine z2 Z Z c11<|z2 Z Z c11<|z2 Z Z c11<|z2 Z Z c11<|z7 Z Z c9<|zVzPt Z c11 Z<|z7 Z Z Z<|zVzPt Z c9 Z<|zVzPf Z Z Z<|zVzMb Z<|z2 Z Z Z<|z2 Z Z Z<|z2 Z Z Z<|z2 Z Z Z<|zh Z Z<|zh Z Z<|zh Z Z<|zh Z Z<|z2 Z Z Z<|zVzPt Z Z Z<|z6 ?_
         exact ⟨_, zR4, zR1, zLe, by simp_all [termT] <;> omega⟩
        ·refine z7 Z Z c11<|zVzFF jc Z jx Z Z<|z7 Z Z c11<|z8 (yr (j := 1) jn j5 Z Z Z (by decide) Z)<|z7 Z Z c11<|zVzLi jd Z<|z7 Z Z c11<|zVGveqlI Z Z<|z7 Z Z c9<|zVzPf Z c11 Z<|z7 Z Z Z<|zVzPt Z c9 Z<|zVzPf Z Z Z<|zVzMb Z<|zn (s := 142) Z (fun c12=>?_) (fun c12=>?_)
         ·refine z2 Z Z c12<|z2 Z Z c12<|z2 Z Z c12<|z2 Z Z c12<|zh Z Z<|zh Z Z<|zh Z Z<|zh Z Z<|z2 Z Z c12<|zVzPt Z c12 Z<|z6 ?_
          exact ⟨_, zR4, zR1, zLe, by simp_all [termT] <;> omega⟩
         ·refine z7 Z Z c12<|zVzFF jc Z Zg Z Z<|z7 Z Z c12<|zVzLi Zl Z<|z7 Z Z c12<|zVGveqlI Z Z<|z7 Z Z c12<|zVzMb Z<|zn (s := 146) Z (fun c13=>?_) (fun c13=>?_)
          ·refine z7 Z Z c13<|zVzFF jc Z jx Z Z<|z7 Z Z c13<|z8 (yr (j := 0) jn j5 Z Z Z (by decide) Z)<|z7 Z Z c13<|zVzLi jd Z<|z7 Z Z c13<|zVGveqlI Z Z<|z7 Z Z c12<|zVzPt Z c13 Z<|zVzPf Z c12 Z<|z6 ?_
           exact ⟨_, zR4, zR1, zLe, by simp_all [termT] <;> omega⟩
          ·refine z2 Z Z c13<|z2 Z Z c13<|z2 Z Z c13<|z2 Z Z c13<|z7 Z Z c12<|zVzPf Z c13 Z<|zVzPf Z c12 Z<|z6 ?_
           exact ⟨_, zR4, zR1, zLe, by simp_all [termT] <;> omega⟩
      ·refine z2 Z Z c9<|z2 Z Z c9<|z2 Z Z c9<|z2 Z Z c9<|z2 Z Z c9<|z2 Z Z c9<|zh Z Z<|zh Z Z<|zh Z Z<|zh Z Z<|z2 Z Z c9<|z2 Z Z c9<|zh Z Z<|zh Z Z<|zh Z Z<|zh Z Z<|z2 Z Z c9<|z7 Z Z Z<|zVzPf Z c9 Z<|zVzPf Z Z Z<|zVzMb Z<|z7 Z Z Z<|zVzFF jc Z Zg Z Z<|z7 Z Z Z<|zVzLi Zl Z<|z7 Z Z Z<|zVGveqlI Z Z<|z7 Z Z Z<|zVzMb Z<|zn (s := 146) Z (fun c14=>?_) (fun c14=>?_)
       ·refine z7 Z Z c14<|zVzFF jc Z jx Z Z<|z7 Z Z c14<|z8 (yr (j := 0) jn j5 Z Z Z (by decide) Z)<|z7 Z Z c14<|zVzLi jd Z<|z7 Z Z c14<|zVGveqlI Z Z<|z7 Z Z Z<|zVzPt Z c14 Z<|zVzPf Z Z Z<|z6 ?_
        exact ⟨_, zR4, zR1, zLe, by simp_all [termT] <;> omega⟩
       ·refine z2 Z Z c14<|z2 Z Z c14<|z2 Z Z c14<|z2 Z Z c14<|z7 Z Z Z<|zVzPf Z c14 Z<|zVzPf Z Z Z<|z6 ?_
        exact ⟨_, zR4, zR1, zLe, by simp_all [termT] <;> omega⟩
    ·rintro u hu
     subst hu
     refine zr Z (fun ct=>?_) (fun ct=>?_)
     ·have dt : termT f b.term = false := by simpa using ct
      refine zSr<|zVzAb Z<|z6<|zi<|zj (x := .bool _) Z ?_
      rw [hbad (by unfold blkT; rw [hjall, hkall, dt]; rfl)]
     ·have dt : termT f b.term = true := by simpa using ct
      refine ze<|zRg<|zVzAd Z Z<|zVzMi Z<|z6 ?_
      exact ⟨i + 1, zR3, zR1, zLe, ⟨hi2, all_take hi2 hall (by rw [hbi]; unfold blkT; rw [hjall, hkall, dt]; rfl)⟩, by omega⟩
 ·have hin : i = f.blocks.length := by simp at ci; omega
  rw [hin, qi] at hall
  refine zw<|zSr<|zVzAb Z<|z6<|zi<|zj (x := .bool _) Z ?_
  rw [hall]
end Go.Proofs.YtiojekbkamegdaaGreatDoor
