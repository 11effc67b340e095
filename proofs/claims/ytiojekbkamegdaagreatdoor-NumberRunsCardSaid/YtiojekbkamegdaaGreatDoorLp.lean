/- How a first check comes from another block; whether it was passed: the program's; the two that are asked. Of programs that are little. -/
import Derived.Test.YtiojekbkamegdaaGreatDoorLo
import Derived.Test.YtiojekbkamegdaaGreatDoorLf
import Derived.Test.YtiojekbkamegdaaGreatDoorLg
set_option linter.unusedVariables false
set_option linter.unusedSimpArgs false
set_option linter.unusedSectionVars false
namespace Go.Proofs.YtiojekbkamegdaaGreatDoor
open Go.Proofs.Tryz
open Go.Proofs Go.Lib Go.Shelf Go.RowKit
variable {E : World}
set_option maxRecDepth 20000
theorem want_1 {f : PFunc} {x : PInst} {m : Nat} (e : x.op = 1) (h : m < (wantL f x).length) : (wantL f x)[m] = kindV f x.dst := by
 have h2 : (wantL f x)[m]? = some (kindV f x.dst) := by
  unfold wantL at h ⊢
  rw [if_pos e] at h ⊢
  simp at h
  subst h; rfl
 rw [qq h] at h2
 exact Option.some.inj h2
theorem want_2 {f : PFunc} {x : PInst} {m : Nat} (e : ¬ x.op = 1) (h : m < (wantL f x).length) (h' : m < (takesL x.op).length) : (wantL f x)[m] = (takesL x.op)[m] := by
 have h2 : (wantL f x)[m]? = some ((takesL x.op)[m]) := by
  unfold wantL
  rw [if_neg e, qq h']
 rw [qq h] at h2
 exact Option.some.inj h2
theorem term_kind {f : PFunc} {t : PTerm} (h : termOK f t = true) : t.kind = 0 ∨ t.kind = 1 ∨ t.kind = 2 := by
 unfold termOK at h
 by_cases h0 : t.kind = 0
 ·exact .inl h0
 ·rw [if_neg h0] at h
  by_cases h1 : t.kind = 1
  ·exact .inr (.inl h1)
  ·rw [if_neg h1] at h
   by_cases h2 : t.kind = 2
   ·exact .inr (.inr h2)
   ·rw [if_neg h2] at h; cases h
set_option maxHeartbeats 8000000 in
theorem refTyped_spec (f : PFunc) (hf : small f) (hS : ShapedP f) : AFun prog E 50 [.agg (encF f)] (.bool (f.blocks.all (blkT f))) := by
 have hn := hf.2.2.1
 refine zp func50 Z (by decide) Z<|zSr<|yc (cs := _) Z Z Z<|zVzAb Z<|z2<|zc<|zSr<|zVzFF jh Z Z1 Z Z<|zVzLf Z8 Z<|zVGvlenM jl Z<|zVzMi Z<|z2<|zi<|y7 (γ := Nat) [1, 16, 17] (fun i => [(18, .int .i64 i)]) (fun i => []) (fun i => i ≤ f.blocks.length ∧ (f.blocks.take i).all (blkT f) = true) (fun i => f.blocks.length - i) 0 zR1 zLe (⟨qt _, Z⟩) ?_
 rintro i ⟨hi, hall⟩
 refine zSr<|zVGvlss Z Z<|z2<|zc<|zo Z (fun ci=>?_) (fun ci=>?_)
 ·have hi2 : i < f.blocks.length := by simp at ci; omega
  obtain ⟨b, hbi⟩ : ∃ b, f.blocks[i] = b := ⟨_, rfl⟩
  have hget : f.blocks[i]? = some b := by rw [qq hi2, hbi]
  have hmem : b ∈ f.blocks := hbi ▸ qu hi2
  obtain ⟨hb0, hb1, hb2, hb3, hb4⟩ := hf.2.2.2.2 b hmem
  obtain ⟨hPh, hIn, hTm⟩ := hS.2.2.2.2.2 b hmem
  have hbad : blkT f b = false → f.blocks.all (blkT f) = false := fun h => Bool.eq_false_iff.2 (all_bad hi2 (by rw [hbi]; exact h))
  refine zf<|zc<|zi<|zSr<|z8 (zIM i jl jw Z Z Z hget)<|zVGvloadWF Yc jw Z Z<|zt (cs := [.str ⟨#[]⟩, .raw (.slice none 0 0), .raw (.slice none 0 0), .int .i64 0, .int .i64 0, .int .i64 0, .int .i64 0]) Zd Z Z<|fun i4 => zn jw Z Z Z Z Z Z .head Z<|zd (yf (t := 4) Z .head)<|z2<|zc<|zSr<|zVzFF je Z Zn Z Z<|zVzLf Y4 Z<|zVGvlenM jx Z<|zVzMi Z<|z2<|zi<|y7 (γ := Nat) [1, 4, 16, 17, 18, 23, 24] (fun j => [(25, .int .i64 j)]) (fun j => []) (fun j => j ≤ b.phis.length ∧ (b.phis.take j).all (phiT f) = true) (fun j => b.phis.length - j) 0 zR1 zLe (⟨qt _, Z⟩) ?_
  rintro j ⟨hj, hjall⟩
  refine zSr<|zVGvlss Z Z<|z2<|zc<|zo Z (fun cj=>?_) (fun cj=>?_)
  ·have hj2 : j < b.phis.length := by simp at cj; omega
   obtain ⟨p, hp⟩ : ∃ p, b.phis[j] = p := ⟨_, rfl⟩
   have hpm : p ∈ b.phis := hp ▸ qu hj2
   obtain ⟨hpd, hpl, hpn, hpa, hpf⟩ := hPh p hpm
   have hpb := (hb3 p hpm).1
   refine zf<|zc<|zi<|zSr<|z8 (zIM j jx Z0 Z Z Z (by rw [qq hj2, hp])) ?_
   refine zVGvloadWF Yf Z0 Z Z<|zt (cs := [.int .i64 0, .raw (.slice none 0 0), .raw (.slice none 0 0)]) Zk Z Z<|fun i6 => zn Z0 Z Z Z Z Z Z .head Z<|zd (yf (t := 6) Z .head)<|z2<|zSr<|zVzFF js Z jd Z Z<|zVzLf jk Z<|zVGvlenM j6 Z<|zVzMi Z<|z2<|zi<|y7 (γ := Nat) [1, 4, 6, 16, 17, 18, 23, 24, 25, 30, 31] (fun k => [(32, .int .i64 k)]) (fun k => []) (fun k => k ≤ p.args.length ∧ (p.args.take k).all (fun v => decide (kindV f v = kindV f p.dst)) = true) (fun k => p.args.length - k) 0 zR1 zLe (⟨qt _, Z⟩) ?_
   rintro k ⟨hk, hkall⟩
   refine zSr<|zVGvlss Z Z<|z2<|zc<|zo Z (fun ck=>?_) (fun ck=>?_)
   ·have hk2 : k < p.args.length := by simp at ck; omega
    obtain ⟨v, hv⟩ : ∃ v, p.args[k] = v := ⟨_, rfl⟩
    have hvv := List.all_eq_true.1 hpa v (hv ▸ qu hk2)
    refine zf<|zc<|zi<|zSr<|z8 (zIM k j6 j7 Z Z Z (by rw [qq hk2, hv])) ?_
    refine zVzLi j9 Z<|zVzAi Z<|z2<|zc<|zr (fun j => false) (by kernel_rfl) Z (zm (.rest _))<|zTk 0 Z (yl jq jj Z Z)<|zTk 1 Z (zMi Z)<|zTk 3 Z (yl jq jj Z Z)<|zTk 4 Z (zFF js Z j7 Z Z)<|zTk 5 Z (zLi j9 Z)<|zOn 2 Z<|zg (rof_spec f v hvv) Z<|z2<|zOn 6 Z<|zg (rof_spec f p.dst hpd) Z<|z2<|zTk 7 Z (Gv.neqI Z Z)<|zDn<|zu Z (fun cq=>?_) (fun cq=>?_)
    ·have hq : ¬ kindV f v = kindV f p.dst := by simpa using cq
     have hph : phiT f p = false := by
      unfold phiT
      rw [show (p.args.any fun v => !decide (kindV f v = kindV f p.dst)) = true from List.any_eq_true.2 ⟨v, hv ▸ qu hk2, by simp [hq]⟩]; rfl
     refine zSr<|zVzAb Z<|z2<|zj<|zk (x := .bool _) Z ?_
     rw [hbad (by unfold blkT; rw [show b.phis.all (phiT f) = false from Bool.eq_false_iff.2 (all_bad hj2 (by rw [hp]; exact hph))]; rfl)]
    ·have hq : kindV f v = kindV f p.dst := by simpa using cq
     refine zf<|zRg<|zVzAd Z Z<|zVzMi Z<|z2 ?_
     exact ⟨k + 1, zR11, zR1, zLe, ⟨hk2, all_take hk2 hkall (by rw [hv]; simp [hq])⟩, by omega⟩
   ·have hkn : k = p.args.length := by simp at ck; omega
    rw [hkn, qv] at hkall
    have hph : phiT f p = true := by
     unfold phiT
     rw [show (p.args.any fun v => !decide (kindV f v = kindV f p.dst)) = false from List.any_eq_false.2 fun v hv => by have := List.all_eq_true.1 hkall v hv; simpa using this]; rfl
    refine y6<|zRg<|zVzAd Z Z<|zVzMi Z<|z2 ?_
    exact ⟨j + 1, zR7, zR1, zLe, ⟨hj2, all_take hj2 hjall (by rw [hp]; exact hph)⟩, by omega⟩
  ·have hjn : j = b.phis.length := by simp at cj; omega
   subst hjn
   rw [qv] at hjall
   refine y6<|zc<|zSr<|zVzFF je Z Zb Z Z<|zVzLf Zw Z<|zVGvlenM jv Z<|zVzMi Z<|z2<|zi<|y7 (γ := Nat) [1, 4, 16, 17, 18, 47, 48] (fun k => [(49, .int .i64 k)]) (fun k => []) (fun k => k ≤ b.insts.length ∧ (b.insts.take k).all (instT f) = true) (fun k => b.insts.length - k) 0 zR1 zLe (⟨qt _, Z⟩) ?_
   rintro k ⟨hk, hkall⟩
   refine zSr<|zVGvlss Z Z<|z2<|zc<|zo Z (fun ck=>?_) (fun ck=>?_)
   ·have hk2 : k < b.insts.length := by simp at ck; omega
    obtain ⟨z, hz⟩ : ∃ z, b.insts[k] = z := ⟨_, rfl⟩
    have hzm : z ∈ b.insts := hz ▸ qu hk2
    have hI := instP_F (hIn z hzm)
    have hzl := hb4 z hzm
    have hwl := wantL_len hI
    have hdst : makesB z.op = true → hasV f z.dst = true := fun h => by
     rcases hI.dst with ⟨d1, _⟩ | ⟨_, _, d3⟩
     ·rw [h] at d1; cases d1
     ·exact d3
    have hcopy : z.op = 1 → makesB z.op = true := fun h => by rw [h]; rfl
    have hib : instT f z = false → f.blocks.all (blkT f) = false := fun h => hbad (by unfold blkT; rw [hjall, show b.insts.all (instT f) = false from Bool.eq_false_iff.2 (all_bad hk2 (by rw [hz]; exact h))]; rfl)
    refine zf<|zc<|zi<|zSr<|z8 (zIM k jv Z2 Z Z Z (by rw [qq hk2, hz])) ?_
    refine zVGvloadWF Yg Z2 Z Z<|zt (cs := [.int .i64 0, .int .i64 0, .raw (.slice none 0 0), .int .i64 0]) Zy Z Z<|fun i10 => zn Z2 Z Z Z Z Z Z .head Z<|zd (yf (t := 10) Z .head)<|z2<|zc<|yn (γ := Nat) [1, 4, 10, 16, 17, 18, 47, 48, 49] (fun g => [(11, .po g 0)]) (fun g => [(g, .cells 170 (encK (kRow z.op)))]) (fun g => True) ?_ (fun _ _ h => h) ?_
    ·refine zr (fun j => false) (by kernel_rfl) Z (zm (.rest _))<|zTk 1 Z (zFF ji Z Zt Z Z)<|zTk 2 Z (zLi Y1 Z)<|yi (i := 0) (j := 5) Z Z (by kernel_rfl) ?_ ?_
     ·refine zg (rows_spec) Z<|z2<|zTk 3 Z (zIM z.op.toNat Yt Y9 Z Z (by have := hI.op; omega) (kRow_get hI.op))<|zTk 4 Z (yl isAgg170 Y9 Z Z)<|zOn 5 Z<|zt (cs := [.str ⟨#[]⟩, .str ⟨#[]⟩, .str ⟨#[]⟩]) Yz Z Z<|fun i11 => z2<|zOn 6 Z<|zn Y9 Z Z Z Z Z Z .head Z<|z2<|zDn ?_
      exact ⟨i11, zR9, zR1, zLe, trivial⟩
     ·refine zt (cs := [.str ⟨#[]⟩, .str ⟨#[]⟩, .str ⟨#[]⟩]) Yz Z Z<|fun i11 => z2<|zOn 0 Z<|zg (rows_spec) Z<|z2<|zTk 3 Z (zIM z.op.toNat Yt Y9 Z Z (by have := hI.op; omega) (kRow_get hI.op))<|zTk 4 Z (yl isAgg170 Y9 Z Z)<|zOn 6 Z<|zn Y9 Z Z Z Z Z Z .head Z<|z2<|zDn ?_
      exact ⟨i11, zR9, zR1, zLe, trivial⟩
    ·rintro i11 _
     refine zc<|zSr<|zVzFF ji Z jd Z Z<|zVzLf jk Z<|zVGvlenM j6 Z<|zVzMi Z<|z2<|zi<|y7 (γ := Nat) [1, 4, 10, 11, 16, 17, 18, 47, 48, 49, 60] (fun m => [(61, .int .i64 m)]) (fun m => [(i11, .cells 170 (encK (kRow z.op)))]) (fun m => m ≤ z.args.length ∧ (z.args.take m).map (kindV f) = (wantL f z).take m) (fun m => z.args.length - m) 0 zR1 zLe (⟨qt _, by simp⟩) ?_
     rintro m ⟨hm, hmall⟩
     refine zSr<|zVGvlss Z Z<|z2<|zc<|zo Z (fun cm=>?_) (fun cm=>?_)
     ·have hm2 : m < z.args.length := by simp at cm; omega
      have hmw : m < (wantL f z).length := by omega
      have hmt : m < (takesL z.op).length := by have := hI.len; omega
      obtain ⟨v, hv⟩ : ∃ v, z.args[m] = v := ⟨_, rfl⟩
      have hvv := hI.args v (hv ▸ qu hm2)
      obtain ⟨c, hc, hct⟩ := takes_byte hmt
      have hbadm : ¬ kindV f v = (wantL f z)[m] → f.blocks.all (blkT f) = false := fun h => hib (by rw [instT_want hI, w5 (map_ne hm2 hmw (by rw [hv]; exact h))]; rfl)
      refine zf<|zc<|zi<|zSr<|zVzMi Z<|zVzAi Z<|z2<|zSr<|z8 (ze Zo Z Zq (by decide) Z Z)<|z8 (zl (c := .str _) Y0 Z ⟨_, .head⟩ Z)<|zVzMi Z<|z8 (Gv.indexT (j := m) Zi Z Z Z hc)<|zg (rtype_spec (c.toNat : Int)) Z<|zVzAi Z<|z2<|zc<|zSr<|z8 (ze Zo Z Zq (by decide) Z Z)<|z8 (zl (c := .str _) Y0 Z ⟨_, .head⟩ Z)<|z8 (yy Z Z)<|z2<|zu Z (fun cw=>?_) (fun cw=>?_)
      ·have ew : z.op = 1 := (copy_op hI.op).1 (by simpa using cw)
       refine zRg<|zVGvloadWF jq jj Z Z<|zVzFF ji Z j7 Z Z<|zVzLi j9 Z<|zg (rof_spec f z.dst (hdst (hcopy ew))) Z<|zVzAi Z<|z2<|zc<|zr (fun j => false) (by kernel_rfl) Z (zm (.rest _))<|zTk 0 Z (yl jq jj Z Z)<|zTk 1 Z (zFF ji Z jd Z Z)<|zTk 2 Z (zLf jk Z)<|zTk 3 Z (zMi Z)<|zTk 4 Z (zIM m j6 j7 Z Z Z (by rw [qq hm2, hv])) ?_
       refine zTk 5 Z (zLi j9 Z)<|zTk 7 Z (zMi Z)<|zOn 6 Z<|zg (rof_spec f v hvv) Z<|z2<|zTk 8 Z (Gv.neqI Z Z)<|zDn<|zu Z (fun cq=>?_) (fun cq=>?_)
       ·have hq : ¬ kindV f v = kindV f z.dst := by simpa using cq
        refine zSr<|zVzAb Z<|z2<|zj<|zk (x := .bool _) Z ?_
        rw [hbadm (by rw [want_1 ew hmw]; exact hq)]
       ·have hq : kindV f v = kindV f z.dst := by simpa using cq
        refine zf<|zRg<|zVzAd Z Z<|zVzMi Z<|z2 ?_
        exact ⟨m + 1, zR11, zR1, zLe, ⟨hm2, map_take_succ hm2 hmw hmall (by rw [hv, want_1 ew hmw]; exact hq)⟩, by omega⟩
      ·have ew : ¬ z.op = 1 := fun e => by have := (copy_op hI.op).2 e; simp [this] at cw
       refine zf<|zc<|zr (fun j => false) (by kernel_rfl) Z (zm (.rest _))<|zTk 0 Z (yl jq jj Z Z)<|zTk 1 Z (zFF ji Z jd Z Z)<|zTk 2 Z (zLf jk Z)<|zTk 3 Z (zMi Z)<|zTk 4 Z (zIM m j6 j7 Z Z Z (by rw [qq hm2, hv])) ?_
       refine zTk 5 Z (zLi j9 Z)<|zTk 7 Z (zMi Z)<|zOn 6 Z<|zg (rof_spec f v hvv) Z<|z2<|zTk 8 Z (Gv.neqI Z Z)<|zDn<|zu Z (fun cq=>?_) (fun cq=>?_)
       ·have hq : ¬ kindV f v = typeOf (c.toNat : Int) := by simpa using cq
        refine zSr<|zVzAb Z<|z2<|zj<|zk (x := .bool _) Z ?_
        rw [hbadm (by rw [want_2 ew hmw hmt, hct]; exact hq)]
       ·have hq : kindV f v = typeOf (c.toNat : Int) := by simpa using cq
        refine zf<|zRg<|zVzAd Z Z<|zVzMi Z<|z2 ?_
        exact ⟨m + 1, zR11, zR1, zLe, ⟨hm2, map_take_succ hm2 hmw hmall (by rw [hv, want_2 ew hmw hmt, hct]; exact hq)⟩, by omega⟩
     ·have hmn : m = z.args.length := by simp at cm; omega
      have hall2 : z.args.map (kindV f) = wantL f z := by rw [hmn, qv, hwl, qv] at hmall; exact hmall
      have hiw := instT_want hI
      rw [w4 hall2, Bool.true_and] at hiw
      refine y6<|zc<|zr (fun j => false) (by kernel_rfl) Z (zm (.r (.rest _)))<|zTk 0 Z (ze Zo Z Zq (by decide) Z Z)<|zTk 1 Z (zl (c := .str _) Y0 Z ⟨_, .head⟩ Z)<|zTk 2 Z (Gv.neqT Z Z)<|zTk 3 Z (zMb Z)<|AAny.case (s := 89) Z (fun c1=>?_) (fun c1=>?_)
      ·have d1 : ¬ (kRow z.op).2.2 = ⟨#[]⟩ := by simpa using c1
       have dm : makesB z.op = true := by rw [makesB_eq, w5 d1]; rfl
       obtain ⟨c, hc, hct⟩ := makes_byte d1
       refine zTt 4 Z Z Z c1 (ze Zo Z Zq (by decide) Z Z)<|zTt 5 Z Z Z c1 (zl (c := .str _) Y0 Z ⟨_, .head⟩ Z)<|zTt 6 Z Z Z c1 (Gv.neqT Z Z)<|zTk 7 Z (zPt Z c1 Z)<|zTk 8 Z (zMb Z)<|AAny.case (s := 94) Z (fun c2=>?_) (fun c2=>?_)
       ·have ew : ¬ z.op = 1 := fun e => by have := (copy_op hI.op).2 e; simp [this] at c2
        refine zTt 9 Z Z Z c2 (yl jq jj Z Z)<|zTt 10 Z Z Z c2 (zFF ji Z j7 Z Z)<|zTt 11 Z Z Z c2 (zLi j9 Z)<|zTt 13 Z Z Z c2 (ze Zo Z Zq (by decide) Z Z)<|zTt 14 Z Z Z c2 (zl (c := .str _) Y0 Z ⟨_, .head⟩ Z)<|zTt 15 Z Z Z c2 (Gv.indexT (j := 0) Zi Z Z Z hc)<|zOn 12 Z<|z7 Z Z c2<|zg (rof_spec f z.dst (hdst dm)) Z<|z2<|zOn 16 Z<|z7 Z Z c2<|zg (rtype_spec (c.toNat : Int)) Z<|z2<|zTt 17 Z Z Z c2 (Gv.neqI Z Z)<|zTk 18 Z (zPt Z c2 Z)<|zDn<|zu Z (fun cq=>?_) (fun cq=>?_)
        ·have hq : ¬ kindV f z.dst = typeOf (c.toNat : Int) := by simpa using cq
         refine zSr<|zVzAb Z<|z2<|zj<|zk (x := .bool _) Z ?_
         rw [hib (by rw [hiw, dm, w5 ew, hct, w5 hq]; rfl)]
        ·have hq : kindV f z.dst = typeOf (c.toNat : Int) := by simpa using cq
         refine zf<|zRg<|zVzAd Z Z<|zVzMi Z<|z2 ?_
         exact ⟨k + 1, zR7, zR1, ⟨_, (.drop (.refl _)), rfl⟩, ⟨hk2, all_take hk2 hkall (by rw [hz, hiw, hct, w4 hq]; simp)⟩, by omega⟩
       ·have ew : z.op = 1 := (copy_op hI.op).1 (by simpa using c2)
        refine zTf 9 Z Z Z c2<|zTf 10 Z Z Z c2<|zTf 11 Z Z Z c2<|zTf 12 Z Z Z c2<|zTf 13 Z Z Z c2<|zTf 14 Z Z Z c2<|zTf 15 Z Z Z c2<|zTf 16 Z Z Z c2<|zTf 17 Z Z Z c2<|zTk 18 Z (zPf Z c2 Z)<|zDn<|yj Z Z<|zf<|zRg<|zVzAd Z Z<|zVzMi Z<|z2 ?_
        exact ⟨k + 1, zR7, zR1, ⟨_, (.drop (.refl _)), rfl⟩, ⟨hk2, all_take hk2 hkall (by rw [hz, hiw, w4 ew]; simp)⟩, by omega⟩
      ·have d1 : (kRow z.op).2.2 = ⟨#[]⟩ := by simpa using c1
       have dm : makesB z.op = false := by rw [makesB_eq, w4 d1]; rfl
       refine zTf 4 Z Z Z c1<|zTf 5 Z Z Z c1<|zTf 6 Z Z Z c1<|zTk 7 Z (zPf Z c1 Z)<|zTk 8 Z (zMb Z)<|zTf 9 Z Z Z Z<|zTf 10 Z Z Z Z<|zTf 11 Z Z Z Z<|zTf 12 Z Z Z Z<|zTf 13 Z Z Z Z<|zTf 14 Z Z Z Z<|zTf 15 Z Z Z Z<|zTf 16 Z Z Z Z<|zTf 17 Z Z Z Z<|zTk 18 Z (zPf Z Z Z)<|zDn<|yj Z Z<|zf<|zRg<|zVzAd Z Z<|zVzMi Z<|z2 ?_
       exact ⟨k + 1, zR7, zR1, ⟨_, (.drop (.refl _)), rfl⟩, ⟨hk2, all_take hk2 hkall (by rw [hz, hiw, dm]; rfl)⟩, by omega⟩
   ·have hkn : k = b.insts.length := by simp at ck; omega
    rw [hkn, qv] at hkall
    refine y6<|zSr<|zVzFF je Z Ze Z Z<|zVGvloadWF isAgg56 Ze Z Z<|zt (cs := [.int .i64 0, .int .i64 0, .int .i64 0, .int .i64 0]) zeroValue56 Z Z<|fun i14 => zn Ze Z Z Z Z Z Z .head Z<|zd (yf (t := 14) Z .head)<|z2<|zc<|yn (γ := Bool) [1, 16, 17, 18] (fun u => [(152, .bool u)]) (fun u => []) (fun u => u = !termT f b.term) ?_ (fun _ _ h => h) ?_
    ·have hk3 := term_kind hTm
     refine zRg<|zVzFF jf Z Zu Z Z<|zVzLi Y3 Z<|zVGveqlI Z Z<|zVzMb Z<|zq (s := 111) Z (fun c1=>?_) (fun c1=>?_)
     ·refine z7 Z Z c1<|zVGvloadWF jq jj Z Z<|z7 Z Z c1<|zVzFF jf Z j7 Z Z<|z7 Z Z c1<|zVzLi j9 Z<|z7 Z Z c1<|zg (rof_spec f b.term.var (term_var hTm (by simp_all))) Z<|z7 Z Z c1<|zVGvneqI Z Z<|zVzPt Z c1 Z<|zVzMb Z<|zq (s := 118) Z (fun c2=>?_) (fun c2=>?_)
      ·refine z6 Z Z c2<|z6 Z Z c2<|z6 Z Z c2<|z6 Z Z c2<|zh Z Z<|zh Z Z<|zh Z Z<|zh Z Z<|zh Z Z<|zh Z Z<|zh Z Z<|zh Z Z<|zh Z Z<|zh Z Z<|zh Z Z<|zh Z Z<|zh Z Z<|zh Z Z<|zh Z Z<|zh Z Z<|zh Z Z<|z6 Z Z c2<|zVzPt Z c2 Z<|zVzMb Z<|z6 Z Z Z<|z6 Z Z Z<|z6 Z Z Z<|z6 Z Z Z<|zh Z Z<|zh Z Z<|zh Z Z<|zh Z Z<|z6 Z Z Z<|zVzPt Z Z Z<|z2 ?_
       exact ⟨_, zR4, zR1, zLe, by simp_all [termT] <;> omega⟩
      ·refine z7 Z Z c2<|zVzFF jf Z Zu Z Z<|z7 Z Z c2<|zVzLi Y3 Z<|z7 Z Z c2<|zVGveqlI Z Z<|z7 Z Z c2<|zVzMb Z<|zq (s := 122) Z (fun c3=>?_) (fun c3=>?_)
       ·refine z7 Z Z c3<|zVGvloadWF jq jj Z Z<|z7 Z Z c3<|zVzFF jf Z j7 Z Z<|z7 Z Z c3<|zVzLi j9 Z<|z7 Z Z c3<|zg (rof_spec f b.term.var (term_var hTm (by simp_all))) Z<|z7 Z Z c3<|zVGvneqI Z Z<|z7 Z Z c3<|zVzMb Z<|zq (s := 128) Z (fun c4=>?_) (fun c4=>?_)
        ·refine z6 Z Z c4<|z6 Z Z c4<|z6 Z Z c4<|z6 Z Z c4<|z7 Z Z c3<|zVzPt Z c4 Z<|z7 Z Z c3<|zVzMb Z<|z6 Z Z Z<|z6 Z Z Z<|z6 Z Z Z<|z6 Z Z Z<|z7 Z Z c3<|zVzPt Z Z Z<|z7 Z Z c2<|zVzPt Z c3 Z<|zVzPf Z c2 Z<|zVzMb Z<|z6 Z Z Z<|z6 Z Z Z<|z6 Z Z Z<|z6 Z Z Z<|zh Z Z<|zh Z Z<|zh Z Z<|zh Z Z<|z6 Z Z Z<|zVzPt Z Z Z<|z2 ?_
         exact ⟨_, zR4, zR1, zLe, by simp_all [termT] <;> omega⟩
        ·refine z7 Z Z c4<|zVzFF jf Z Z6 Z Z<|z7 Z Z c4<|z8 (yu (j := 0) jy j7 Z Z Z (by decide) Z)<|z7 Z Z c4<|zVzLi j9 Z<|z7 Z Z c4<|zVGveqlI Z Z<|z7 Z Z c3<|zVzPf Z c4 Z<|z7 Z Z c3<|zVzMb Z<|zq (s := 134) Z (fun c5=>?_) (fun c5=>?_)
         ·refine z6 Z Z c5<|z6 Z Z c5<|z6 Z Z c5<|z6 Z Z c5<|z7 Z Z c3<|zVzPt Z c5 Z<|z7 Z Z c2<|zVzPt Z c3 Z<|zVzPf Z c2 Z<|zVzMb Z<|z6 Z Z Z<|z6 Z Z Z<|z6 Z Z Z<|z6 Z Z Z<|zh Z Z<|zh Z Z<|zh Z Z<|zh Z Z<|z6 Z Z Z<|zVzPt Z Z Z<|z2 ?_
          exact ⟨_, zR4, zR1, zLe, by simp_all [termT] <;> omega⟩
         ·refine z7 Z Z c5<|zVzFF jf Z Z6 Z Z<|z7 Z Z c5<|z8 (yu (j := 1) jy j7 Z Z Z (by decide) Z)<|z7 Z Z c5<|zVzLi j9 Z<|z7 Z Z c5<|zVGveqlI Z Z<|z7 Z Z c3<|zVzPf Z c5 Z<|z7 Z Z c2<|zVzPt Z c3 Z<|zVzPf Z c2 Z<|zVzMb Z<|zq (s := 142) Z (fun c6=>?_) (fun c6=>?_)
          ·refine z6 Z Z c6<|z6 Z Z c6<|z6 Z Z c6<|z6 Z Z c6<|zh Z Z<|zh Z Z<|zh Z Z<|zh Z Z<|z6 Z Z c6<|zVzPt Z c6 Z<|z2 ?_
           exact ⟨_, zR4, zR1, zLe, by simp_all [termT] <;> omega⟩
          ·refine z7 Z Z c6<|zVzFF jf Z Zu Z Z<|z7 Z Z c6<|zVzLi Y3 Z<|z7 Z Z c6<|zVGveqlI Z Z<|z7 Z Z c6<|zVzMb Z<|zq (s := 146) Z (fun c7=>?_) (fun c7=>?_)
           ·refine z7 Z Z c7<|zVzFF jf Z Z6 Z Z<|z7 Z Z c7<|z8 (yu (j := 0) jy j7 Z Z Z (by decide) Z)<|z7 Z Z c7<|zVzLi j9 Z<|z7 Z Z c7<|zVGveqlI Z Z<|z7 Z Z c6<|zVzPt Z c7 Z<|zVzPf Z c6 Z<|z2 ?_
            exact ⟨_, zR4, zR1, zLe, by simp_all [termT] <;> omega⟩
           ·refine z6 Z Z c7<|z6 Z Z c7<|z6 Z Z c7<|z6 Z Z c7<|z7 Z Z c6<|zVzPf Z c7 Z<|zVzPf Z c6 Z<|z2 ?_
            exact ⟨_, zR4, zR1, zLe, by simp_all [termT] <;> omega⟩
       ·refine z6 Z Z c3<|z6 Z Z c3<|z6 Z Z c3<|z6 Z Z c3<|z6 Z Z c3<|z6 Z Z c3<|zh Z Z<|zh Z Z<|zh Z Z<|zh Z Z<|z6 Z Z c3<|z6 Z Z c3<|zh Z Z<|zh Z Z<|zh Z Z<|zh Z Z<|z6 Z Z c3<|z7 Z Z c2<|zVzPf Z c3 Z<|zVzPf Z c2 Z<|zVzMb Z<|z7 Z Z Z<|zVzFF jf Z Zu Z Z<|z7 Z Z Z<|zVzLi Y3 Z<|z7 Z Z Z<|zVGveqlI Z Z<|z7 Z Z Z<|zVzMb Z<|zq (s := 146) Z (fun c8=>?_) (fun c8=>?_)
        ·refine z7 Z Z c8<|zVzFF jf Z Z6 Z Z<|z7 Z Z c8<|z8 (yu (j := 0) jy j7 Z Z Z (by decide) Z)<|z7 Z Z c8<|zVzLi j9 Z<|z7 Z Z c8<|zVGveqlI Z Z<|z7 Z Z Z<|zVzPt Z c8 Z<|zVzPf Z Z Z<|z2 ?_
         exact ⟨_, zR4, zR1, zLe, by simp_all [termT] <;> omega⟩
        ·refine z6 Z Z c8<|z6 Z Z c8<|z6 Z Z c8<|z6 Z Z c8<|z7 Z Z Z<|zVzPf Z c8 Z<|zVzPf Z Z Z<|z2 ?_
         exact ⟨_, zR4, zR1, zLe, by simp_all [termT] <;> omega⟩
     ·refine z6 Z Z c1<|z6 Z Z c1<|z6 Z Z c1<|z6 Z Z c1<|z6 Z Z c1<|zVzPf Z c1 Z<|zVzMb Z<|z7 Z Z Z<|zVzFF jf Z Zu Z Z<|z7 Z Z Z<|zVzLi Y3 Z<|z7 Z Z Z<|zVGveqlI Z Z<|z7 Z Z Z<|zVzMb Z<|zq (s := 122) Z (fun c9=>?_) (fun c9=>?_)
      ·refine z7 Z Z c9<|zVGvloadWF jq jj Z Z<|z7 Z Z c9<|zVzFF jf Z j7 Z Z<|z7 Z Z c9<|zVzLi j9 Z<|z7 Z Z c9<|zg (rof_spec f b.term.var (term_var hTm (by simp_all))) Z<|z7 Z Z c9<|zVGvneqI Z Z<|z7 Z Z c9<|zVzMb Z<|zq (s := 128) Z (fun c10=>?_) (fun c10=>?_)
       ·refine z6 Z Z c10<|z6 Z Z c10<|z6 Z Z c10<|z6 Z Z c10<|z7 Z Z c9<|zVzPt Z c10 Z<|z7 Z Z c9<|zVzMb Z<|z6 Z Z Z<|z6 Z Z Z<|z6 Z Z Z<|z6 Z Z Z<|z7 Z Z c9<|zVzPt Z Z Z<|z7 Z Z Z<|zVzPt Z c9 Z<|zVzPf Z Z Z<|zVzMb Z<|z6 Z Z Z<|z6 Z Z Z<|z6 Z Z Z<|z6 Z Z Z<|zh Z Z<|zh Z Z<|zh Z Z<|zh Z Z<|z6 Z Z Z<|zVzPt Z Z Z<|z2 ?_
        exact ⟨_, zR4, zR1, zLe, by simp_all [termT] <;> omega⟩
       ·refine z7 Z Z c10<|zVzFF jf Z Z6 Z Z<|z7 Z Z c10<|z8 (yu (j := 0) jy j7 Z Z Z (by decide) Z)<|z7 Z Z c10<|zVzLi j9 Z<|z7 Z Z c10<|zVGveqlI Z Z<|z7 Z Z c9<|zVzPf Z c10 Z<|z7 Z Z c9<|zVzMb Z<|zq (s := 134) Z (fun c11=>?_) (fun c11=>?_)
        ·refine z6 Z Z c11<|z6 Z Z c11<|z6 Z Z c11<|z6 Z Z c11<|z7 Z Z c9<|zVzPt Z c11 Z<|z7 Z Z Z<|zVzPt Z c9 Z<|zVzPf Z Z Z<|zVzMb Z<|z6 Z Z Z<|z6 Z Z Z<|z6 Z Z Z<|z6 Z Z Z<|zh Z Z<|zh Z Z<|zh Z Z<|zh Z Z<|z6 Z Z Z<|zVzPt Z Z Z<|z2 ?_
         exact ⟨_, zR4, zR1, zLe, by simp_all [termT] <;> omega⟩
        ·refine z7 Z Z c11<|zVzFF jf Z Z6 Z Z<|z7 Z Z c11<|z8 (yu (j := 1) jy j7 Z Z Z (by decide) Z)<|z7 Z Z c11<|zVzLi j9 Z<|z7 Z Z c11<|zVGveqlI Z Z<|z7 Z Z c9<|zVzPf Z c11 Z<|z7 Z Z Z<|zVzPt Z c9 Z<|zVzPf Z Z Z<|zVzMb Z<|zq (s := 142) Z (fun c12=>?_) (fun c12=>?_)
         ·refine z6 Z Z c12<|z6 Z Z c12<|z6 Z Z c12<|z6 Z Z c12<|zh Z Z<|zh Z Z<|zh Z Z<|zh Z Z<|z6 Z Z c12<|zVzPt Z c12 Z<|z2 ?_
          exact ⟨_, zR4, zR1, zLe, by simp_all [termT] <;> omega⟩
         ·refine z7 Z Z c12<|zVzFF jf Z Zu Z Z<|z7 Z Z c12<|zVzLi Y3 Z<|z7 Z Z c12<|zVGveqlI Z Z<|z7 Z Z c12<|zVzMb Z<|zq (s := 146) Z (fun c13=>?_) (fun c13=>?_)
          ·refine z7 Z Z c13<|zVzFF jf Z Z6 Z Z<|z7 Z Z c13<|z8 (yu (j := 0) jy j7 Z Z Z (by decide) Z)<|z7 Z Z c13<|zVzLi j9 Z<|z7 Z Z c13<|zVGveqlI Z Z<|z7 Z Z c12<|zVzPt Z c13 Z<|zVzPf Z c12 Z<|z2 ?_
           exact ⟨_, zR4, zR1, zLe, by simp_all [termT] <;> omega⟩
          ·refine z6 Z Z c13<|z6 Z Z c13<|z6 Z Z c13<|z6 Z Z c13<|z7 Z Z c12<|zVzPf Z c13 Z<|zVzPf Z c12 Z<|z2 ?_
           exact ⟨_, zR4, zR1, zLe, by simp_all [termT] <;> omega⟩
      ·refine z6 Z Z c9<|z6 Z Z c9<|z6 Z Z c9<|z6 Z Z c9<|z6 Z Z c9<|z6 Z Z c9<|zh Z Z<|zh Z Z<|zh Z Z<|zh Z Z<|z6 Z Z c9<|z6 Z Z c9<|zh Z Z<|zh Z Z<|zh Z Z<|zh Z Z<|z6 Z Z c9<|z7 Z Z Z<|zVzPf Z c9 Z<|zVzPf Z Z Z<|zVzMb Z<|z7 Z Z Z<|zVzFF jf Z Zu Z Z<|z7 Z Z Z<|zVzLi Y3 Z<|z7 Z Z Z<|zVGveqlI Z Z<|z7 Z Z Z<|zVzMb Z<|zq (s := 146) Z (fun c14=>?_) (fun c14=>?_)
       ·refine z7 Z Z c14<|zVzFF jf Z Z6 Z Z<|z7 Z Z c14<|z8 (yu (j := 0) jy j7 Z Z Z (by decide) Z)<|z7 Z Z c14<|zVzLi j9 Z<|z7 Z Z c14<|zVGveqlI Z Z<|z7 Z Z Z<|zVzPt Z c14 Z<|zVzPf Z Z Z<|z2 ?_
        exact ⟨_, zR4, zR1, zLe, by simp_all [termT] <;> omega⟩
       ·refine z6 Z Z c14<|z6 Z Z c14<|z6 Z Z c14<|z6 Z Z c14<|z7 Z Z Z<|zVzPf Z c14 Z<|zVzPf Z Z Z<|z2 ?_
        exact ⟨_, zR4, zR1, zLe, by simp_all [termT] <;> omega⟩
    ·rintro u hu
     subst hu
     refine zu Z (fun ct=>?_) (fun ct=>?_)
     ·have dt : termT f b.term = false := by simpa using ct
      refine zSr<|zVzAb Z<|z2<|zj<|zk (x := .bool _) Z ?_
      rw [hbad (by unfold blkT; rw [hjall, hkall, dt]; rfl)]
     ·have dt : termT f b.term = true := by simpa using ct
      refine zf<|zRg<|zVzAd Z Z<|zVzMi Z<|z2 ?_
      exact ⟨i + 1, zR3, zR1, zLe, ⟨hi2, all_take hi2 hall (by rw [hbi]; unfold blkT; rw [hjall, hkall, dt]; rfl)⟩, by omega⟩
 ·have hin : i = f.blocks.length := by simp at ci; omega
  rw [hin, qv] at hall
  refine y6<|zSr<|zVzAb Z<|z2<|zj<|zk (x := .bool _) Z ?_
  rw [hall]
end Go.Proofs.YtiojekbkamegdaaGreatDoor
namespace Go.Proofs.YtiojekbkamegdaaGreatDoor
open Go.Proofs.Tryz
open Go.Proofs Go.Lib Go.Shelf Go.RowKit
set_option maxRecDepth 20000
variable {E : World}
theorem sum_take {α : Type} (g : α → Nat) : ∀ (l : List α) (k : Nat), ((l.take k).map g).sum ≤ (l.map g).sum
 | [], k => by simp
 | x :: l, 0 => by simp
 | x :: l, k + 1 => by
  have := sum_take g l k
  simp only [List.take_succ_cons, List.map_cons, List.sum_cons]; omega
theorem wP_take (l : List PPhi) (k : Nat) : wP (l.take k) ≤ wP l := sum_take _ l k
theorem wX_take (l : List PInst) (k : Nat) : wX (l.take k) ≤ wX l := sum_take _ l k
theorem little_le {f : PFunc} (h : little f) {k : Nat} (hk : k < f.blocks.length) : wV f.vars + wBs (f.blocks.take k) + wB f.blocks[k] ≤ 4000 := by
 have h1 := h.2.2.2.2.2 (fun e => by rw [e] at hk; exact absurd hk (Nat.not_lt_zero _))
 have h2 : wBs (f.blocks.take (k + 1)) ≤ wBs f.blocks := sum_take _ f.blocks (k + 1)
 rw [wBs_succ hk] at h2
 omega
set_option maxHeartbeats 8000000 in
theorem fewIff_spec (f : PFunc) (hf : wFunc f) : ACall prog E 11 [.agg (encF f)] [] (fun x _ => ∃ b : Bool, x = .bool b ∧ (b = true ↔ little f)) := by
 obtain ⟨hf1, hf2, hf3, hf4⟩ := hf
 have hl1 := hf1.lt
 have hl3 := hf3.lt
 refine zp func11 Z (by decide) Z<|zSr<|yc (cs := _) Z Z Z<|zVzAb Z<|z2<|zc<|zc<|yn (γ := Unit) [1] (fun u => [(27, .bool (few1 f))]) (fun u => []) (fun u => True) ?_ (fun _ _ h => h) ?_
 ·refine zRg<|zVzFF jh Z Ya Z Z<|zVzLf Yk Z<|zVGvlenM Z4 Z<|zVGvgtr Z Z<|zVzMb Z<|zq (s := 16) Z (fun c1=>?_) (fun c1=>?_)
  ·refine z6 Z Z c1<|z6 Z Z c1<|z6 Z Z c1<|z6 Z Z c1<|zVzPt Z c1 Z<|zVzMb Z<|z6 Z Z Z<|z6 Z Z Z<|z6 Z Z Z<|z6 Z Z Z<|zVzPt Z Z Z<|z2 ?_
   exact ⟨(), zR1, ⟨jb (by simp_all [few1] <;> grind), trivial⟩, zLe, trivial⟩
  ·refine z7 Z Z c1<|zVzFF jh Z Z1 Z Z<|z7 Z Z c1<|zVzLf Z8 Z<|z7 Z Z c1<|zVGvlenM jl Z<|z7 Z Z c1<|zVGvgtr Z Z<|zVzPf Z c1 Z<|zVzMb Z<|zq (s := 22) Z (fun c2=>?_) (fun c2=>?_)
   ·refine z6 Z Z c2<|z6 Z Z c2<|z6 Z Z c2<|z6 Z Z c2<|zVzPt Z c2 Z<|z2 ?_
    exact ⟨(), zR1, ⟨jb (by simp_all [few1] <;> grind), trivial⟩, zLe, trivial⟩
   ·refine z7 Z Z c2<|zVzFF jh Z jd Z Z<|z7 Z Z c2<|zVzLf jk Z<|z7 Z Z c2<|zVGvlenM j6 Z<|z7 Z Z c2<|zVGvgtr Z Z<|zVzPf Z c2 Z<|z2 ?_
    exact ⟨(), zR1, ⟨jb (by simp_all [few1] <;> grind), trivial⟩, zLe, trivial⟩
 ·rintro _ _
  refine zu Z (fun c1=>?_) (fun c1=>?_)
  ·refine zSr<|zVzAb Z<|z2<|zj<|zk (x := .bool _) Z ?_
   exact ⟨_, rfl, fun h => (by cases h), fun hl => absurd hl (fun hl => by have h1 := hl.1; have h2 := hl.2.1; have h3 := hl.2.2.1; unfold few1 at c1; simp at c1; omega)⟩
  ·have hsz : f.vars.length ≤ 100 ∧ f.blocks.length ≤ 40 ∧ f.params.length ≤ 20 := by unfold few1 at c1; simp at c1; omega
   refine zf<|zSr<|zVzAi Z<|z2<|zc<|zSr<|zVzFF jh Z Ya Z Z<|zVzLf Yk Z<|zVGvlenM Z4 Z<|zVzMi Z<|z2<|zi<|y7 (γ := Nat) [1, 29, 30] (fun k => [(31, .int .i64 k), (3, .int .i64 (wV (f.vars.take k)))]) (fun k => []) (fun k => k ≤ f.vars.length ∧ wV (f.vars.take k) ≤ 400 * k ∧ ∀ v ∈ f.vars.take k, v.name.size ≤ 400) (fun k => f.vars.length - k) 0 zR2 zLe (⟨qt _, Nat.le_refl _, by simp⟩) ?_
   rintro k ⟨hk, hw, hv⟩
   refine zSr<|zVGvlss Z Z<|z2<|zc<|zo Z (fun ck=>?_) (fun ck=>?_)
   ·have hk1 : k < f.vars.length := by omega
    have hs := wV_succ hk1
    refine zf<|zc<|zi<|zSr<|z8 (q7 Z4 Ye Z Z Z (qq (by omega)))<|zVGvloadWF isAgg79 Ye Z Z<|zt (cs := [.str ⟨#[]⟩, .int .i64 0]) zeroValue79 Z Z<|fun i5 => zn Ye Z Z Z Z Z Z .head Z<|z2<|zc<|zSr<|z8 (ze Zl Z Zq (by decide) Z Z)<|z8 (zl (c := .str _) Y0 Z ⟨_, .head⟩ Z)<|z8 (Gv.lenT Zi Z)<|zVGvgtr Z Z<|z2<|zo Z (fun cn=>?_) (fun cn=>?_)
    ·refine zSr<|zVzAb Z<|z2<|zj<|zk (x := .bool _) Z ?_
     exact ⟨_, rfl, fun h => (by cases h), fun hl => absurd hl (fun hl => by have h1 := hl.2.2.2.1 _ (qu hk1); omega)⟩
    ·refine zf<|zRg<|zVzMi Z<|z8 (ze Zl Z Zq (by decide) Z Z)<|z8 (zl (c := .str _) Y0 Z ⟨_, .head⟩ Z)<|z8 (Gv.lenT Zi Z)<|zVzAd Z Z<|zVzAi Z<|z2<|zRg<|zVzAd Z Z<|zVzMi Z<|z2 ?_
     exact ⟨k + 1, zR3, ⟨rfl, congrArg (AV.int .i64) (by rw [hs]; omega), trivial⟩, ⟨_, (.drop (.refl _)), rfl⟩, ⟨hk1, by omega, forall_take hk1 hv (by omega)⟩, by omega⟩
   ·obtain rfl : k = f.vars.length := by omega
    rw [qv] at hw hv
    rw [qv]
    refine y6<|zc<|zSr<|zVzFF jh Z Z1 Z Z<|zVzLf Z8 Z<|zVGvlenM jl Z<|zVzMi Z<|z2<|zi<|y7 (γ := Nat) [46, 47] (fun k => [(48, .int .i64 k), (3, .int .i64 (wV f.vars + wBs (f.blocks.take k) : Nat))]) (fun k => []) (fun k => k ≤ f.blocks.length ∧ (0 < k → wV f.vars + wBs (f.blocks.take k) ≤ 4000) ∧ wBs (f.blocks.take k) ≤ 4000 ∧ ∀ b ∈ f.blocks.take k, littleB b) (fun k => f.blocks.length - k) 0 zR2 zLe (⟨qt _, by omega, by simp [wBs], by simp⟩) ?_
    rintro k ⟨hk, hw2, hw3, hb⟩
    refine zSr<|zVGvlss Z Z<|z2<|zc<|zo Z (fun ck=>?_) (fun ck=>?_)
    ·have hk1 : k < f.blocks.length := by omega
     obtain ⟨hb1, hb2, hb3, hb4⟩ := hf4 _ (qu hk1)
     have hs := wBs_succ hk1
     refine zf<|zc<|zi<|zSr<|z8 (q7 jl jw Z Z Z (qq (by omega)))<|zVGvloadWF Yc jw Z Z<|zt (cs := [.str ⟨#[]⟩, .raw (.slice none 0 0), .raw (.slice none 0 0), .int .i64 0, .int .i64 0, .int .i64 0, .int .i64 0]) Zd Z Z<|fun i7 => zn jw Z Z Z Z Z Z .head Z<|z2<|zc<|zc<|yn (γ := Unit) [3, 7, 46, 47, 48] (fun u => [(67, .bool (few2 f.blocks[k]))]) (fun u => [(i7, .cells 58 (encBlk f.blocks[k]))]) (fun u => True) ?_ (fun _ _ h => h) ?_
     ·refine zRg<|z8 (ze je Z Zq (by decide) Z Z)<|z8 (zl (c := .str _) Y0 Z ⟨_, .head⟩ Z)<|z8 (Gv.lenT Zi Z)<|zVGvgtr Z Z<|zVzMb Z<|zq (s := 56) Z (fun c3=>?_) (fun c3=>?_)
      ·refine z6 Z Z c3<|z6 Z Z c3<|z6 Z Z c3<|z6 Z Z c3<|zVzPt Z c3 Z<|zVzMb Z<|z6 Z Z Z<|z6 Z Z Z<|z6 Z Z Z<|z6 Z Z Z<|zVzPt Z Z Z<|z2 ?_
       exact ⟨(), zR5, ⟨jb (by simp_all [few2] <;> grind), trivial⟩, zLe, trivial⟩
      ·refine z7 Z Z c3<|z8 (ze je Z Zn (by decide) Z Z)<|z7 Z Z c3<|z8 (zl (c := .fro _ _) Y4 Z ⟨_, .head⟩ Z)<|z7 Z Z c3<|zVGvlenM jx Z<|z7 Z Z c3<|zVGvgtr Z Z<|zVzPf Z c3 Z<|zVzMb Z<|zq (s := 62) Z (fun c4=>?_) (fun c4=>?_)
       ·refine z6 Z Z c4<|z6 Z Z c4<|z6 Z Z c4<|z6 Z Z c4<|zVzPt Z c4 Z<|z2 ?_
        exact ⟨(), zR5, ⟨jb (by simp_all [few2] <;> grind), trivial⟩, zLe, trivial⟩
       ·refine z7 Z Z c4<|z8 (ze je Z Zb (by decide) Z Z)<|z7 Z Z c4<|z8 (zl (c := .fro _ _) Zw Z ⟨_, .head⟩ Z)<|z7 Z Z c4<|zVGvlenM jv Z<|z7 Z Z c4<|zVGvgtr Z Z<|zVzPf Z c4 Z<|z2 ?_
        exact ⟨(), zR5, ⟨jb (by simp_all [few2] <;> grind), trivial⟩, zLe, trivial⟩
     ·rintro _ _
      refine zu Z (fun c2=>?_) (fun c2=>?_)
      ·refine zSr<|zVzAb Z<|z2<|zj<|zk (x := .bool _) Z ?_
       exact ⟨_, rfl, fun h => (by cases h), fun hl => absurd hl (fun hl => by obtain ⟨h1, h2, h3, _⟩ := hl.2.2.2.2.1 _ (qu hk1); unfold few2 at c2; simp at c2; omega)⟩
      ·have hsb : f.blocks[k].name.size ≤ 400 ∧ f.blocks[k].phis.length ≤ 400 ∧ f.blocks[k].insts.length ≤ 400 := by unfold few2 at c2; simp at c2; omega
       refine zf<|zSr<|zVzMi Z<|z8 (ze je Z Zq (by decide) Z Z)<|z8 (zl (c := .str _) Y0 Z ⟨_, .head⟩ Z)<|z8 (Gv.lenT Zi Z)<|z8 (ze je Z Zn (by decide) Z Z)<|z8 (zl (c := .fro _ _) Y4 Z ⟨_, .head⟩ Z)<|zVGvlenM jx Z<|z8 (ze je Z Zb (by decide) Z Z)<|z8 (zl (c := .fro _ _) Zw Z ⟨_, .head⟩ Z)<|zVGvlenM jv Z<|zVzAd Z Z<|z8 (Gv.mul Z Z (by unfold I64; omega))<|zVzAd Z Z<|zVzAd Z Z<|zVzAi Z<|z2<|zc<|zSr<|z8 (ze je Z Zn (by decide) Z Z)<|z8 (zl (c := .fro _ _) Y4 Z ⟨_, .head⟩ Z)<|zVGvlenM jx Z<|zVzMi Z<|z2<|zi<|y7 (γ := Nat) [7, 46, 47, 48, 83, 84] (fun m => [(85, .int .i64 m), (3, .int .i64 (wV f.vars + wBs (f.blocks.take k) + (f.blocks[k].name.size + 10 * (f.blocks[k].phis.length + f.blocks[k].insts.length)) + wP (f.blocks[k].phis.take m) : Nat))]) (fun m => [(i7, .cells 58 (encBlk f.blocks[k]))]) (fun m => m ≤ f.blocks[k].phis.length ∧ wP (f.blocks[k].phis.take m) ≤ 800 * m ∧ ∀ p ∈ f.blocks[k].phis.take m, p.args.length ≤ 400 ∧ p.from_.length ≤ 400) (fun m => f.blocks[k].phis.length - m) 0 ⟨Z, (congrArg (AV.int .i64) (by simp [wP] <;> omega)), trivial⟩ zLe (⟨qt _, by simp [wP], by simp⟩) ?_
       rintro m ⟨hm, hwp, hp⟩
       refine zSr<|zVGvlss Z Z<|z2<|zc<|zo Z (fun cm=>?_) (fun cm=>?_)
       ·have hm1 : m < f.blocks[k].phis.length := by omega
        obtain ⟨hq1, hq2⟩ := hb3 _ (qu hm1)
        have hl6 := hq1.lt
        have hl7 := hq2.lt
        have hs2 := wP_succ hm1
        refine zf<|zc<|zi<|zSr<|z8 (q7 jx Z0 Z Z Z (qq (by omega)))<|zVGvloadWF Yf Z0 Z Z<|zt (cs := [.int .i64 0, .raw (.slice none 0 0), .raw (.slice none 0 0)]) Zk Z Z<|fun i9 => zn Z0 Z Z Z Z Z Z .head Z<|z2<|zc<|zc<|yn (γ := Unit) [3, 7, 9, 46, 47, 48, 83, 84, 85] (fun u => [(102, .bool (decide ((4000 : Int) < (wV f.vars + wBs (f.blocks.take k) + (f.blocks[k].name.size + 10 * (f.blocks[k].phis.length + f.blocks[k].insts.length)) + wP (f.blocks[k].phis.take m) : Nat)) || (decide ((400 : Int) < f.blocks[k].phis[m].args.length) || decide ((400 : Int) < f.blocks[k].phis[m].from_.length))))]) (fun u => [(i9, .cells 81 (encPhi f.blocks[k].phis[m])), (i7, .cells 58 (encBlk f.blocks[k]))]) (fun u => True) ?_ (fun _ _ h => h) ?_
        ·refine zRg<|zVzMi Z<|zVGvgtr Z Z<|zVzMb Z<|zq (s := 91) Z (fun c5=>?_) (fun c5=>?_)
         ·refine z6 Z Z c5<|z6 Z Z c5<|z6 Z Z c5<|z6 Z Z c5<|zVzPt Z c5 Z<|zVzMb Z<|z6 Z Z Z<|z6 Z Z Z<|z6 Z Z Z<|z6 Z Z Z<|zVzPt Z Z Z<|z2 ?_
          exact ⟨(), zR9, ⟨jb (by simp_all <;> grind), trivial⟩, zLe, trivial⟩
         ·refine z7 Z Z c5<|z8 (ze js Z jd (by decide) Z Z)<|z7 Z Z c5<|z8 (zl (c := .fro _ _) jk Z ⟨_, .head⟩ Z)<|z7 Z Z c5<|zVGvlenM j6 Z<|z7 Z Z c5<|zVGvgtr Z Z<|zVzPf Z c5 Z<|zVzMb Z<|zq (s := 97) Z (fun c6=>?_) (fun c6=>?_)
          ·refine z6 Z Z c6<|z6 Z Z c6<|z6 Z Z c6<|z6 Z Z c6<|zVzPt Z c6 Z<|z2 ?_
           exact ⟨(), zR9, ⟨jb (by simp_all <;> grind), trivial⟩, zLe, trivial⟩
          ·refine z7 Z Z c6<|z8 (ze js Z jd (by decide) Z Z)<|z7 Z Z c6<|z8 (zl (c := .fro _ _) jk Z ⟨_, .head⟩ Z)<|z7 Z Z c6<|zVGvlenM j6 Z<|z7 Z Z c6<|zVGvgtr Z Z<|zVzPf Z c6 Z<|z2 ?_
           exact ⟨(), zR9, ⟨jb (by simp_all <;> grind), trivial⟩, zLe, trivial⟩
        ·rintro _ _
         refine zu Z (fun cp=>?_) (fun cp=>?_)
         ·refine zSr<|zVzAb Z<|z2<|zj<|zk (x := .bool _) Z ?_
          exact ⟨_, rfl, fun h => (by cases h), fun hl => absurd hl (fun hl => by obtain ⟨_, _, _, h4, _⟩ := hl.2.2.2.2.1 _ (qu hk1); have h5 := h4 _ (qu hm1); have h9 := little_le hl hk1; have hwb : wB f.blocks[k] = f.blocks[k].name.size + 10 * (f.blocks[k].phis.length + f.blocks[k].insts.length) + wP f.blocks[k].phis + wX f.blocks[k].insts := rfl; have h10 := wP_take f.blocks[k].phis m; simp only [Bool.or_eq_true, w9] at cp; omega)⟩
         ·rcases Bool.or_eq_false_iff.1 cp with ⟨a1, a2⟩
          rcases Bool.or_eq_false_iff.1 a2 with ⟨a3, a4⟩
          have a3 := of_decide_eq_false a3
          have a4 := of_decide_eq_false a4
          refine zf<|zRg<|zVzMi Z<|z8 (ze js Z jd (by decide) Z Z)<|z8 (zl (c := .fro _ _) jk Z ⟨_, .head⟩ Z)<|zVGvlenM j6 Z<|z8 (ze js Z jd (by decide) Z Z)<|z8 (zl (c := .fro _ _) jk Z ⟨_, .head⟩ Z)<|zVGvlenM j6 Z<|zVzAd Z Z<|zVzAd Z Z<|zVzAi Z<|z2<|zRg<|zVzAd Z Z<|zVzMi Z<|z2 ?_
          exact ⟨m + 1, zR6, ⟨rfl, congrArg (AV.int .i64) (by rw [hs2]; omega), trivial⟩, ⟨_, (.drop (.refl _)), rfl⟩, ⟨hm1, by omega, forall_take hm1 hp ⟨by omega, by omega⟩⟩, by omega⟩
       ·obtain rfl : m = f.blocks[k].phis.length := by omega
        rw [qv] at hwp hp
        rw [qv]
        refine y6<|zc<|zSr<|z8 (ze je Z Zb (by decide) Z Z)<|z8 (zl (c := .fro _ _) Zw Z ⟨_, .head⟩ Z)<|zVGvlenM jv Z<|zVzMi Z<|z2<|zi<|y7 (γ := Nat) [46, 47, 48, 114, 115] (fun m => [(116, .int .i64 m), (3, .int .i64 (wV f.vars + wBs (f.blocks.take k) + (f.blocks[k].name.size + 10 * (f.blocks[k].phis.length + f.blocks[k].insts.length)) + wP f.blocks[k].phis + wX (f.blocks[k].insts.take m) : Nat))]) (fun m => [(i7, .cells 58 (encBlk f.blocks[k]))]) (fun m => m ≤ f.blocks[k].insts.length ∧ wX (f.blocks[k].insts.take m) ≤ 400 * m ∧ ∀ p ∈ f.blocks[k].insts.take m, p.args.length ≤ 400) (fun m => f.blocks[k].insts.length - m) 0 ⟨Z, (congrArg (AV.int .i64) (by simp [wX] <;> omega)), trivial⟩ zLe (⟨qt _, by simp [wX], by simp⟩) ?_
        rintro m ⟨hm, hwx, hx⟩
        refine zSr<|zVGvlss Z Z<|z2<|zc<|zo Z (fun cm=>?_) (fun cm=>?_)
        ·have hm1 : m < f.blocks[k].insts.length := by omega
         have hq1 := hb4 _ (qu hm1)
         have hl6 := hq1.lt
         have hs2 := wX_succ hm1
         refine zf<|zc<|zi<|zSr<|z8 (q7 jv Z2 Z Z Z (qq (by omega)))<|zVGvloadWF Yg Z2 Z Z<|zt (cs := [.int .i64 0, .int .i64 0, .raw (.slice none 0 0), .int .i64 0]) Zy Z Z<|fun i11 => zn Z2 Z Z Z Z Z Z .head Z<|z2<|zc<|zc<|yn (γ := Unit) [3, 11, 46, 47, 48, 114, 115, 116] (fun u => [(127, .bool (decide ((4000 : Int) < (wV f.vars + wBs (f.blocks.take k) + (f.blocks[k].name.size + 10 * (f.blocks[k].phis.length + f.blocks[k].insts.length)) + wP f.blocks[k].phis + wX (f.blocks[k].insts.take m) : Nat)) || decide ((400 : Int) < f.blocks[k].insts[m].args.length)))]) (fun u => [(i11, .cells 61 (encInst f.blocks[k].insts[m])), (i7, .cells 58 (encBlk f.blocks[k]))]) (fun u => True) ?_ (fun _ _ h => h) ?_
         ·refine zRg<|zVzMi Z<|zVGvgtr Z Z<|zVzMb Z<|zq (s := 122) Z (fun c7=>?_) (fun c7=>?_)
          ·refine z6 Z Z c7<|z6 Z Z c7<|z6 Z Z c7<|z6 Z Z c7<|zVzPt Z c7 Z<|z2 ?_
           exact ⟨(), zR8, ⟨jb (by simp_all <;> grind), trivial⟩, zLe, trivial⟩
          ·refine z7 Z Z c7<|z8 (ze ji Z jd (by decide) Z Z)<|z7 Z Z c7<|z8 (zl (c := .fro _ _) jk Z ⟨_, .head⟩ Z)<|z7 Z Z c7<|zVGvlenM j6 Z<|z7 Z Z c7<|zVGvgtr Z Z<|zVzPf Z c7 Z<|z2 ?_
           exact ⟨(), zR8, ⟨jb (by simp_all <;> grind), trivial⟩, zLe, trivial⟩
         ·rintro _ _
          refine zu Z (fun cp=>?_) (fun cp=>?_)
          ·refine zSr<|zVzAb Z<|z2<|zj<|zk (x := .bool _) Z ?_
           exact ⟨_, rfl, fun h => (by cases h), fun hl => absurd hl (fun hl => by obtain ⟨_, _, _, _, h4⟩ := hl.2.2.2.2.1 _ (qu hk1); have h5 := h4 _ (qu hm1); have h9 := little_le hl hk1; have hwb : wB f.blocks[k] = f.blocks[k].name.size + 10 * (f.blocks[k].phis.length + f.blocks[k].insts.length) + wP f.blocks[k].phis + wX f.blocks[k].insts := rfl; have h10 := wX_take f.blocks[k].insts m; simp only [Bool.or_eq_true, w9] at cp; omega)⟩
          ·rcases Bool.or_eq_false_iff.1 cp with ⟨a1, a2⟩
           have a2 := of_decide_eq_false a2
           refine zf<|zRg<|zVzMi Z<|z8 (ze ji Z jd (by decide) Z Z)<|z8 (zl (c := .fro _ _) jk Z ⟨_, .head⟩ Z)<|zVGvlenM j6 Z<|zVzAd Z Z<|zVzAi Z<|z2<|zRg<|zVzAd Z Z<|zVzMi Z<|z2 ?_
           exact ⟨m + 1, zR5, ⟨rfl, congrArg (AV.int .i64) (by rw [hs2]; omega), trivial⟩, ⟨_, (.drop (.refl _)), rfl⟩, ⟨hm1, by omega, forall_take hm1 hx (by omega)⟩, by omega⟩
        ·obtain rfl : m = f.blocks[k].insts.length := by omega
         rw [qv] at hwx hx
         rw [qv]
         refine y6<|zSr<|zVzMi Z<|zVGvgtr Z Z<|z2<|zo Z (fun cz=>?_) (fun cz=>?_)
         ·refine zSr<|zVzAb Z<|z2<|zj<|zk (x := .bool _) Z ?_
          exact ⟨_, rfl, fun h => (by cases h), fun hl => absurd hl (fun hl => by have h9 := little_le hl hk1; have hwb : wB f.blocks[k] = f.blocks[k].name.size + 10 * (f.blocks[k].phis.length + f.blocks[k].insts.length) + wP f.blocks[k].phis + wX f.blocks[k].insts := rfl; omega)⟩
         ·have hwb : wB f.blocks[k] = f.blocks[k].name.size + 10 * (f.blocks[k].phis.length + f.blocks[k].insts.length) + wP f.blocks[k].phis + wX f.blocks[k].insts := rfl
          refine zf<|zRg<|zVzAd Z Z<|zVzMi Z<|z2 ?_
          exact ⟨k + 1, zR2, ⟨rfl, congrArg (AV.int .i64) (by rw [hs]; omega), trivial⟩, ⟨_, (.drop (.refl _)), rfl⟩, ⟨hk1, by omega, by omega, forall_take hk1 hb ⟨hsb.1, hsb.2.1, hsb.2.2, hp, hx⟩⟩, by omega⟩
    ·obtain rfl : k = f.blocks.length := by omega
     rw [qv] at hw2 hw3 hb
     refine y6<|zSr<|zVzAb Z<|z2<|zj<|zk (x := .bool _) Z ?_
     exact ⟨_, rfl, fun _ => ⟨hsz.1, hsz.2.1, hsz.2.2, hv, hb, fun hne => hw2 (List.length_pos_iff.2 hne)⟩, fun _ => rfl⟩
theorem lawShaped2_spec (f : PFunc) (hf : okFunc f) (hn : okNames f) (hL : Letters E) : AFun prog E 49 [.agg (encF f)] (.bool (decide (ShapedP f))) := by
 refine zp func49 Z (by decide) Z<|zSr<|yc (cs := _) Z Z Z<|zVzAb Z<|z2<|zSr<|zVGvloadWF jq jj Z Z<|zg (refShaped_spec _ (by assumption) (by assumption) hL) Z<|zVzAb Z<|z2<|zj<|zk (x := .bool _) Z ?_
 rfl
noncomputable def fewB (f : PFunc) : Bool := @decide (little f) (Classical.propDecidable _)
theorem fewB_iff (f : PFunc) : fewB f = true ↔ little f := by unfold fewB; exact @decide_eq_true_iff _ (Classical.propDecidable _)
theorem fewT_spec (f : PFunc) (hf : wFunc f) : AFun prog E 11 [.agg (encF f)] (.bool (fewB f)) :=
 (fewIff_spec f hf).mono fun x O' ⟨b, e, h⟩ => by
  rw [e]
  congr 1
  rw [qz, h, fewB_iff]
theorem lawTyped8_spec (f : PFunc) (hf : small f) (hL : Letters E) : AFun prog E 18 [.agg (encF f)] (.bool (typedB f)) := by
 have hs := lawShaped2_spec (E := E) f hf.ok hf.names hL
 refine zp func18 Z (by decide) Z<|zSr<|yc (cs := _) Z Z Z<|zVzAb Z<|z2<|zSr<|zVGvloadWF jq jj Z Z<|zg (hs) Z ?_
 by_cases g4 : ShapedP f
 ·refine zVzMb Z<|z7 Z Z (w4 g4)<|zVGvloadWF jq jj Z Z<|z7 Z Z (w4 g4)<|zg (refTyped_spec f hf g4) Z<|z8 (zPt Z (w4 g4) Z)<|zVzAb Z<|z2<|zj<|zk (x := .bool _) Z ?_
  exact jb (by unfold typedB; rw [shapedB_eq, w4 g4]; rfl)
 ·refine zVzMb Z<|z6 Z Z (w5 g4)<|z6 Z Z (w5 g4)<|z8 (zPf Z (w5 g4) Z)<|zVzAb Z<|z2<|zj<|zk (x := .bool _) Z ?_
  exact jb (by unfold typedB; rw [shapedB_eq, w5 g4]; rfl)
theorem lawTyped_spec (f : PFunc) (hw : wFunc f) (hL : Letters E) : AFun prog E 44 [.agg (encF f)] (.bool (fewB f && typedB f)) := by
 refine zp func44 Z (by decide) Z<|zSr<|yc (cs := _) Z Z Z<|zVzAb Z<|z2<|zSr<|zVGvloadWF jq jj Z Z<|zg (fewT_spec f hw) Z<|zVzMb Z<|zq (s := 5) Z (fun g=>?_) (fun g=>?_)
 ·refine z7 Z Z g<|zVGvloadWF jq jj Z Z<|z7 Z Z g<|zg (lawTyped8_spec f ((fewB_iff f).1 g).small hL) Z<|zVzPt Z g Z<|zVzAb Z<|z2<|zj<|zk (x := .bool _) Z ?_
  exact jb (by rw [g]; rfl)
 ·refine z6 Z Z g<|z6 Z Z g<|zVzPf Z g Z<|zVzAb Z<|z2<|zj<|zk (x := .bool _) Z ?_
  exact jb (by rw [g]; rfl)
noncomputable def lawSing (f : PFunc) : Bool := fewB f && typedB f && singB f
theorem and3 {a b : Bool} (h : (a && b) = true) : a = true ∧ b = true := by simpa using h
theorem singR_typed {f : PFunc} (h : typedB f = true) : singR f = singB f :=
 singR_eq (typedB_ends h) fun b hb p hp c hc => by
  have h1 := ((typedB_shaped h).2.2.2.2.2 b hb).1 p hp
  have h2 := List.all_eq_true.1 h1.2.2.2.2 c hc
  simpa [hasB] using h2
theorem lawSingle_spec (f : PFunc) (hw : wFunc f) (hL : Letters E) : AFun prog E 13 [.agg (encF f)] (.bool (lawSing f)) := by
 refine zp func13 Z (by decide) Z<|zSr<|yc (cs := _) Z Z Z<|zVzAb Z<|z2<|zSr<|zVGvloadWF jq jj Z Z<|zg (lawTyped_spec f hw hL) Z<|zVzMb Z<|zq (s := 5) Z (fun g=>?_) (fun g=>?_)
 ·refine z7 Z Z g<|zVGvloadWF jq jj Z Z<|z7 Z Z g<|zg (refSingle_spec f (typedB_ends (and3 g).2) ((fewB_iff f).1 (and3 g).1).small (typedB_shaped (and3 g).2)) Z<|zVzPt Z g Z<|zVzAb Z<|z2<|zj<|zk (x := .bool _) Z ?_
  exact jb (by unfold lawSing; rw [g, singR_typed (and3 g).2]; rfl)
 ·refine z6 Z Z g<|z6 Z Z g<|zVzPf Z g Z<|zVzAb Z<|z2<|zj<|zk (x := .bool _) Z ?_
  exact jb (by unfold lawSing; rw [g]; rfl)
end Go.Proofs.YtiojekbkamegdaaGreatDoor
namespace Go.Proofs.YtiojekbkamegdaaGreatDoor
open Go.Proofs.Tryz
end Go.Proofs.YtiojekbkamegdaaGreatDoor
namespace Go.Proofs.YtiojekbkamegdaaGreatDoor
open Go.Proofs.Tryz
open Go.Proofs Go.Lib Go.Shelf Go.RowKit
variable {E : World}
set_option maxRecDepth 20000
end Go.Proofs.YtiojekbkamegdaaGreatDoor
namespace Go.Proofs.YtiojekbkamegdaaGreatDoor
open Go.Proofs.Tryz
open Go.Proofs Go.Lib Go.Shelf Go.RowKit
theorem pl61 : Places prog 61 #[(0, 1), (1, 1), (2, 1), (3, 1)] [.int .i64 0, .int .i64 0, .raw (.slice none 0 0), .int .i64 0] := ⟨_, _, ji, Zy, fun w => by kernel_rfl, rfl⟩
variable {E : World}
set_option maxRecDepth 20000
end Go.Proofs.YtiojekbkamegdaaGreatDoor
