/- Numbers: a block, and all that is below it. Of programs that are little. -/
import Derived.Test.YtiojekbkamegdaaGreatDoorKp
import Derived.Test.YtiojekbkamegdaaGreatDoorKh
import Derived.Test.YtiojekbkamegdaaGreatDoorKd
import Derived.Test.YtiojekbkamegdaaGreatDoorKi
set_option linter.unusedVariables false
set_option linter.unusedSimpArgs false
set_option linter.unusedSectionVars false
namespace Go.Proofs.YtiojekbkamegdaaGreatDoor
open Go.Proofs.Tryz
open Go.Proofs Go.Lib Go.Shelf Go.RowKit
set_option maxRecDepth 20000
variable {E : World}
theorem sum_take {α : Type} (g : α → Nat) : ∀ (l : List α) (k : Nat), ((l.take k).map g).sum ≤ (l.map g).sum
 | [], k => by simp
 | x :: l, 0 => by simp
 | x :: l, k + 1 => by
  have := sum_take g l k
  simp only [List.take_succ_cons, List.map_cons, List.sum_cons]; omega
theorem wP_take (l : List PPhi) (k : Nat) : wP (l.take k) ≤ wP l := sum_take _ l k
theorem wX_take (l : List PInst) (k : Nat) : wX (l.take k) ≤ wX l := sum_take _ l k
theorem little_le {f : PFunc} (h : little f) {k : Nat} (hk : k < f.blocks.length) : wV f.vars + wBs (f.blocks.take k) + wB f.blocks[k] ≤ 4000 := by
 have h1 := h.2.2.2.2.2 (fun e => by rw [e] at hk; exact absurd hk (Nat.not_lt_zero _))
 have h2 : wBs (f.blocks.take (k + 1)) ≤ wBs f.blocks := sum_take _ f.blocks (k + 1)
 rw [wBs_succ hk] at h2
 omega
set_option maxHeartbeats 8000000 in
theorem fewIff_spec (f : PFunc) (hf : wFunc f) : ACall prog E 11 [.agg (encF f)] [] (fun x _ => ∃ b : Bool, x = .bool b ∧ (b = true ↔ little f)) := by
 obtain ⟨hf1, hf2, hf3, hf4⟩ := hf
 have hl1 := hf1.lt
 have hl3 := hf3.lt
 refine zo func11 Z (by decide) Z<|zSr<|y9 (cs := _) Z Z Z<|zVzAb Z<|z6<|za<|za<|yo (γ := Unit) [1] (fun u => [(27, .bool (few1 f))]) (fun u => []) (fun u => True) ?_ (fun _ _ h => h) ?_
 ·refine zRg<|zVzFF j9 Z Zm Z Z<|zVzLf Zv Z<|zVGvlenM js Z<|z8 (yt Z Z)<|zVzMb Z<|zn (s := 16) Z (fun c1=>?_) (fun c1=>?_)
  ·refine z2 Z Z c1<|z2 Z Z c1<|z2 Z Z c1<|z2 Z Z c1<|zVzPt Z c1 Z<|zVzMb Z<|z2 Z Z Z<|z2 Z Z Z<|z2 Z Z Z<|z2 Z Z Z<|zVzPt Z Z Z<|z6 ?_
   exact ⟨(), zR1, ⟨jb (by simp_all [few1] <;> grind), trivial⟩, zLe, trivial⟩
  ·refine z7 Z Z c1<|zVzFF j9 Z jp Z Z<|z7 Z Z c1<|zVzLf jt Z<|z7 Z Z c1<|zVGvlenM jf Z<|z7 Z Z c1<|z8 (yt Z Z)<|zVzPf Z c1 Z<|zVzMb Z<|zn (s := 22) Z (fun c2=>?_) (fun c2=>?_)
   ·refine z2 Z Z c2<|z2 Z Z c2<|z2 Z Z c2<|z2 Z Z c2<|zVzPt Z c2 Z<|z6 ?_
    exact ⟨(), zR1, ⟨jb (by simp_all [few1] <;> grind), trivial⟩, zLe, trivial⟩
   ·refine z7 Z Z c2<|zVzFF j9 Z j8 Z Z<|z7 Z Z c2<|zVzLf jg Z<|z7 Z Z c2<|zVGvlenM j4 Z<|z7 Z Z c2<|z8 (yt Z Z)<|zVzPf Z c2 Z<|z6 ?_
    exact ⟨(), zR1, ⟨jb (by simp_all [few1] <;> grind), trivial⟩, zLe, trivial⟩
 ·rintro _ _
  refine zr Z (fun c1=>?_) (fun c1=>?_)
  ·refine zSr<|zVzAb Z<|z6<|zi<|zj (x := .bool _) Z ?_
   exact ⟨_, rfl, fun h => (by cases h), fun hl => absurd hl (fun hl => by have h1 := hl.1; have h2 := hl.2.1; have h3 := hl.2.2.1; unfold few1 at c1; simp at c1; omega)⟩
  ·have hsz : f.vars.length ≤ 100 ∧ f.blocks.length ≤ 40 ∧ f.params.length ≤ 20 := by unfold few1 at c1; simp at c1; omega
   refine ze<|zSr<|zVzAi Z<|z6<|za<|zSr<|zVzFF j9 Z Zm Z Z<|zVzLf Zv Z<|zVGvlenM js Z<|zVzMi Z<|z6<|zg<|zx (γ := Nat) [1, 29, 30] (fun k => [(31, .int .i64 k), (3, .int .i64 (wV (f.vars.take k)))]) (fun k => []) (fun k => k ≤ f.vars.length ∧ wV (f.vars.take k) ≤ 400 * k ∧ ∀ v ∈ f.vars.take k, v.name.size ≤ 400) (fun k => f.vars.length - k) 0 zR2 zLe (⟨qg _, Nat.le_refl _, by simp⟩) ?_
   rintro k ⟨hk, hw, hv⟩
   refine zSr<|zVGvlss Z Z<|z6<|za<|zq Z (fun ck=>?_) (fun ck=>?_)
   ·have hk1 : k < f.vars.length := by omega
    have hs := wV_succ hk1
    refine ze<|za<|zg<|zSr<|z8 (ym js Zn Z Z Z (qd (by omega)))<|zVGvloadWF isAgg79 Zn Z Z<|zz (cs := [.str ⟨#[]⟩, .int .i64 0]) zeroValue79 Z Z<|fun i5 => zu Zn Z Z Z Z Z Z .head Z<|z6<|za<|zSr<|z8 (zl Z9 Z Z7 (by decide) Z Z)<|z8 (zm (c := .str _) Zi Z ⟨_, .head⟩ Z)<|z8 (Gv.lenT Z2 Z)<|z8 (yt Z Z)<|z6<|zq Z (fun cn=>?_) (fun cn=>?_)
    ·refine zSr<|zVzAb Z<|z6<|zi<|zj (x := .bool _) Z ?_
     exact ⟨_, rfl, fun h => (by cases h), fun hl => absurd hl (fun hl => by have h1 := hl.2.2.2.1 _ (qh hk1); omega)⟩
    ·refine ze<|zRg<|zVzMi Z<|z8 (zl Z9 Z Z7 (by decide) Z Z)<|z8 (zm (c := .str _) Zi Z ⟨_, .head⟩ Z)<|z8 (Gv.lenT Z2 Z)<|zVzAd Z Z<|zVzAi Z<|z6<|zRg<|zVzAd Z Z<|zVzMi Z<|z6 ?_
     exact ⟨k + 1, zR3, ⟨rfl, congrArg (AV.int .i64) (by rw [hs]; omega), trivial⟩, ⟨_, (.drop (.refl _)), rfl⟩, ⟨hk1, by omega, forall_take hk1 hv (by omega)⟩, by omega⟩
   ·obtain rfl : k = f.vars.length := by omega
    rw [qi] at hw hv
    rw [qi]
    refine zw<|za<|zSr<|zVzFF j9 Z jp Z Z<|zVzLf jt Z<|zVGvlenM jf Z<|zVzMi Z<|z6<|zg<|zx (γ := Nat) [46, 47] (fun k => [(48, .int .i64 k), (3, .int .i64 (wV f.vars + wBs (f.blocks.take k) : Nat))]) (fun k => []) (fun k => k ≤ f.blocks.length ∧ (0 < k → wV f.vars + wBs (f.blocks.take k) ≤ 4000) ∧ wBs (f.blocks.take k) ≤ 4000 ∧ ∀ b ∈ f.blocks.take k, littleB b) (fun k => f.blocks.length - k) 0 zR2 zLe (⟨qg _, by omega, by simp [wBs], by simp⟩) ?_
    rintro k ⟨hk, hw2, hw3, hb⟩
    refine zSr<|zVGvlss Z Z<|z6<|za<|zq Z (fun ck=>?_) (fun ck=>?_)
    ·have hk1 : k < f.blocks.length := by omega
     obtain ⟨hb1, hb2, hb3, hb4⟩ := hf4 _ (qh hk1)
     have hs := wBs_succ hk1
     refine ze<|za<|zg<|zSr<|z8 (ym jf jk Z Z Z (qd (by omega)))<|zVGvloadWF Zk jk Z Z<|zz (cs := [.str ⟨#[]⟩, .raw (.slice none 0 0), .raw (.slice none 0 0), .int .i64 0, .int .i64 0, .int .i64 0, .int .i64 0]) ju Z Z<|fun i7 => zu jk Z Z Z Z Z Z .head Z<|z6<|za<|za<|yo (γ := Unit) [3, 7, 46, 47, 48] (fun u => [(67, .bool (few2 f.blocks[k]))]) (fun u => [(i7, .cells 58 (encBlk f.blocks[k]))]) (fun u => True) ?_ (fun _ _ h => h) ?_
     ·refine zRg<|z8 (zl j7 Z Z7 (by decide) Z Z)<|z8 (zm (c := .str _) Zi Z ⟨_, .head⟩ Z)<|z8 (Gv.lenT Z2 Z)<|z8 (yt Z Z)<|zVzMb Z<|zn (s := 56) Z (fun c3=>?_) (fun c3=>?_)
      ·refine z2 Z Z c3<|z2 Z Z c3<|z2 Z Z c3<|z2 Z Z c3<|zVzPt Z c3 Z<|zVzMb Z<|z2 Z Z Z<|z2 Z Z Z<|z2 Z Z Z<|z2 Z Z Z<|zVzPt Z Z Z<|z6 ?_
       exact ⟨(), zR5, ⟨jb (by simp_all [few2] <;> grind), trivial⟩, zLe, trivial⟩
      ·refine z7 Z Z c3<|z8 (zl j7 Z Z4 (by decide) Z Z)<|z7 Z Z c3<|z8 (zm (c := .fro _ _) Zj Z ⟨_, .head⟩ Z)<|z7 Z Z c3<|zVGvlenM jl Z<|z7 Z Z c3<|z8 (yt Z Z)<|zVzPf Z c3 Z<|zVzMb Z<|zn (s := 62) Z (fun c4=>?_) (fun c4=>?_)
       ·refine z2 Z Z c4<|z2 Z Z c4<|z2 Z Z c4<|z2 Z Z c4<|zVzPt Z c4 Z<|z6 ?_
        exact ⟨(), zR5, ⟨jb (by simp_all [few2] <;> grind), trivial⟩, zLe, trivial⟩
       ·refine z7 Z Z c4<|z8 (zl j7 Z jv (by decide) Z Z)<|z7 Z Z c4<|z8 (zm (c := .fro _ _) Z5 Z ⟨_, .head⟩ Z)<|z7 Z Z c4<|zVGvlenM jh Z<|z7 Z Z c4<|z8 (yt Z Z)<|zVzPf Z c4 Z<|z6 ?_
        exact ⟨(), zR5, ⟨jb (by simp_all [few2] <;> grind), trivial⟩, zLe, trivial⟩
     ·rintro _ _
      refine zr Z (fun c2=>?_) (fun c2=>?_)
      ·refine zSr<|zVzAb Z<|z6<|zi<|zj (x := .bool _) Z ?_
       exact ⟨_, rfl, fun h => (by cases h), fun hl => absurd hl (fun hl => by obtain ⟨h1, h2, h3, _⟩ := hl.2.2.2.2.1 _ (qh hk1); unfold few2 at c2; simp at c2; omega)⟩
      ·have hsb : f.blocks[k].name.size ≤ 400 ∧ f.blocks[k].phis.length ≤ 400 ∧ f.blocks[k].insts.length ≤ 400 := by unfold few2 at c2; simp at c2; omega
       refine ze<|zSr<|zVzMi Z<|z8 (zl j7 Z Z7 (by decide) Z Z)<|z8 (zm (c := .str _) Zi Z ⟨_, .head⟩ Z)<|z8 (Gv.lenT Z2 Z)<|z8 (zl j7 Z Z4 (by decide) Z Z)<|z8 (zm (c := .fro _ _) Zj Z ⟨_, .head⟩ Z)<|zVGvlenM jl Z<|z8 (zl j7 Z jv (by decide) Z Z)<|z8 (zm (c := .fro _ _) Z5 Z ⟨_, .head⟩ Z)<|zVGvlenM jh Z<|zVzAd Z Z<|z8 (Gv.mul Z Z (by unfold I64; omega))<|zVzAd Z Z<|zVzAd Z Z<|zVzAi Z<|z6<|za<|zSr<|z8 (zl j7 Z Z4 (by decide) Z Z)<|z8 (zm (c := .fro _ _) Zj Z ⟨_, .head⟩ Z)<|zVGvlenM jl Z<|zVzMi Z<|z6<|zg<|zx (γ := Nat) [7, 46, 47, 48, 83, 84] (fun m => [(85, .int .i64 m), (3, .int .i64 (wV f.vars + wBs (f.blocks.take k) + (f.blocks[k].name.size + 10 * (f.blocks[k].phis.length + f.blocks[k].insts.length)) + wP (f.blocks[k].phis.take m) : Nat))]) (fun m => [(i7, .cells 58 (encBlk f.blocks[k]))]) (fun m => m ≤ f.blocks[k].phis.length ∧ wP (f.blocks[k].phis.take m) ≤ 800 * m ∧ ∀ p ∈ f.blocks[k].phis.take m, p.args.length ≤ 400 ∧ p.from_.length ≤ 400) (fun m => f.blocks[k].phis.length - m) 0 ⟨Z, (congrArg (AV.int .i64) (by simp [wP] <;> omega)), trivial⟩ zLe (⟨qg _, by simp [wP], by simp⟩) ?_
       rintro m ⟨hm, hwp, hp⟩
       refine zSr<|zVGvlss Z Z<|z6<|za<|zq Z (fun cm=>?_) (fun cm=>?_)
       ·have hm1 : m < f.blocks[k].phis.length := by omega
        obtain ⟨hq1, hq2⟩ := hb3 _ (qh hm1)
        have hl6 := hq1.lt
        have hl7 := hq2.lt
        have hs2 := wP_succ hm1
        refine ze<|za<|zg<|zSr<|z8 (ym jl jo Z Z Z (qd (by omega)))<|zVGvloadWF Zs jo Z Z<|zz (cs := [.int .i64 0, .raw (.slice none 0 0), .raw (.slice none 0 0)]) Z3 Z Z<|fun i9 => zu jo Z Z Z Z Z Z .head Z<|z6<|za<|za<|yo (γ := Unit) [3, 7, 9, 46, 47, 48, 83, 84, 85] (fun u => [(102, .bool (decide ((4000 : Int) < (wV f.vars + wBs (f.blocks.take k) + (f.blocks[k].name.size + 10 * (f.blocks[k].phis.length + f.blocks[k].insts.length)) + wP (f.blocks[k].phis.take m) : Nat)) || (decide ((400 : Int) < f.blocks[k].phis[m].args.length) || decide ((400 : Int) < f.blocks[k].phis[m].from_.length))))]) (fun u => [(i9, .cells 81 (encPhi f.blocks[k].phis[m])), (i7, .cells 58 (encBlk f.blocks[k]))]) (fun u => True) ?_ (fun _ _ h => h) ?_
        ·refine zRg<|zVzMi Z<|z8 (yt Z Z)<|zVzMb Z<|zn (s := 91) Z (fun c5=>?_) (fun c5=>?_)
         ·refine z2 Z Z c5<|z2 Z Z c5<|z2 Z Z c5<|z2 Z Z c5<|zVzPt Z c5 Z<|zVzMb Z<|z2 Z Z Z<|z2 Z Z Z<|z2 Z Z Z<|z2 Z Z Z<|zVzPt Z Z Z<|z6 ?_
          exact ⟨(), zR9, ⟨jb (by simp_all <;> grind), trivial⟩, zLe, trivial⟩
         ·refine z7 Z Z c5<|z8 (zl jj Z j8 (by decide) Z Z)<|z7 Z Z c5<|z8 (zm (c := .fro _ _) jg Z ⟨_, .head⟩ Z)<|z7 Z Z c5<|zVGvlenM j4 Z<|z7 Z Z c5<|z8 (yt Z Z)<|zVzPf Z c5 Z<|zVzMb Z<|zn (s := 97) Z (fun c6=>?_) (fun c6=>?_)
          ·refine z2 Z Z c6<|z2 Z Z c6<|z2 Z Z c6<|z2 Z Z c6<|zVzPt Z c6 Z<|z6 ?_
           exact ⟨(), zR9, ⟨jb (by simp_all <;> grind), trivial⟩, zLe, trivial⟩
          ·refine z7 Z Z c6<|z8 (zl jj Z j8 (by decide) Z Z)<|z7 Z Z c6<|z8 (zm (c := .fro _ _) jg Z ⟨_, .head⟩ Z)<|z7 Z Z c6<|zVGvlenM j4 Z<|z7 Z Z c6<|z8 (yt Z Z)<|zVzPf Z c6 Z<|z6 ?_
           exact ⟨(), zR9, ⟨jb (by simp_all <;> grind), trivial⟩, zLe, trivial⟩
        ·rintro _ _
         refine zr Z (fun cp=>?_) (fun cp=>?_)
         ·refine zSr<|zVzAb Z<|z6<|zi<|zj (x := .bool _) Z ?_
          exact ⟨_, rfl, fun h => (by cases h), fun hl => absurd hl (fun hl => by obtain ⟨_, _, _, h4, _⟩ := hl.2.2.2.2.1 _ (qh hk1); have h5 := h4 _ (qh hm1); have h9 := little_le hl hk1; have hwb : wB f.blocks[k] = f.blocks[k].name.size + 10 * (f.blocks[k].phis.length + f.blocks[k].insts.length) + wP f.blocks[k].phis + wX f.blocks[k].insts := rfl; have h10 := wP_take f.blocks[k].phis m; simp only [Bool.or_eq_true, qt] at cp; omega)⟩
         ·rcases Bool.or_eq_false_iff.1 cp with ⟨a1, a2⟩
          rcases Bool.or_eq_false_iff.1 a2 with ⟨a3, a4⟩
          have a3 := of_decide_eq_false a3
          have a4 := of_decide_eq_false a4
          refine ze<|zRg<|zVzMi Z<|z8 (zl jj Z j8 (by decide) Z Z)<|z8 (zm (c := .fro _ _) jg Z ⟨_, .head⟩ Z)<|zVGvlenM j4 Z<|z8 (zl jj Z j8 (by decide) Z Z)<|z8 (zm (c := .fro _ _) jg Z ⟨_, .head⟩ Z)<|zVGvlenM j4 Z<|zVzAd Z Z<|zVzAd Z Z<|zVzAi Z<|z6<|zRg<|zVzAd Z Z<|zVzMi Z<|z6 ?_
          exact ⟨m + 1, zR6, ⟨rfl, congrArg (AV.int .i64) (by rw [hs2]; omega), trivial⟩, ⟨_, (.drop (.refl _)), rfl⟩, ⟨hm1, by omega, forall_take hm1 hp ⟨by omega, by omega⟩⟩, by omega⟩
       ·obtain rfl : m = f.blocks[k].phis.length := by omega
        rw [qi] at hwp hp
        rw [qi]
        refine zw<|za<|zSr<|z8 (zl j7 Z jv (by decide) Z Z)<|z8 (zm (c := .fro _ _) Z5 Z ⟨_, .head⟩ Z)<|zVGvlenM jh Z<|zVzMi Z<|z6<|zg<|zx (γ := Nat) [46, 47, 48, 114, 115] (fun m => [(116, .int .i64 m), (3, .int .i64 (wV f.vars + wBs (f.blocks.take k) + (f.blocks[k].name.size + 10 * (f.blocks[k].phis.length + f.blocks[k].insts.length)) + wP f.blocks[k].phis + wX (f.blocks[k].insts.take m) : Nat))]) (fun m => [(i7, .cells 58 (encBlk f.blocks[k]))]) (fun m => m ≤ f.blocks[k].insts.length ∧ wX (f.blocks[k].insts.take m) ≤ 400 * m ∧ ∀ p ∈ f.blocks[k].insts.take m, p.args.length ≤ 400) (fun m => f.blocks[k].insts.length - m) 0 ⟨Z, (congrArg (AV.int .i64) (by simp [wX] <;> omega)), trivial⟩ zLe (⟨qg _, by simp [wX], by simp⟩) ?_
        rintro m ⟨hm, hwx, hx⟩
        refine zSr<|zVGvlss Z Z<|z6<|za<|zq Z (fun cm=>?_) (fun cm=>?_)
        ·have hm1 : m < f.blocks[k].insts.length := by omega
         have hq1 := hb4 _ (qh hm1)
         have hl6 := hq1.lt
         have hs2 := wX_succ hm1
         refine ze<|za<|zg<|zSr<|z8 (ym jh jm Z Z Z (qd (by omega)))<|zVGvloadWF Zh jm Z Z<|zz (cs := [.int .i64 0, .int .i64 0, .raw (.slice none 0 0), .int .i64 0]) jz Z Z<|fun i11 => zu jm Z Z Z Z Z Z .head Z<|z6<|za<|za<|yo (γ := Unit) [3, 11, 46, 47, 48, 114, 115, 116] (fun u => [(127, .bool (decide ((4000 : Int) < (wV f.vars + wBs (f.blocks.take k) + (f.blocks[k].name.size + 10 * (f.blocks[k].phis.length + f.blocks[k].insts.length)) + wP f.blocks[k].phis + wX (f.blocks[k].insts.take m) : Nat)) || decide ((400 : Int) < f.blocks[k].insts[m].args.length)))]) (fun u => [(i11, .cells 61 (encInst f.blocks[k].insts[m])), (i7, .cells 58 (encBlk f.blocks[k]))]) (fun u => True) ?_ (fun _ _ h => h) ?_
         ·refine zRg<|zVzMi Z<|z8 (yt Z Z)<|zVzMb Z<|zn (s := 122) Z (fun c7=>?_) (fun c7=>?_)
          ·refine z2 Z Z c7<|z2 Z Z c7<|z2 Z Z c7<|z2 Z Z c7<|zVzPt Z c7 Z<|z6 ?_
           exact ⟨(), zR8, ⟨jb (by simp_all <;> grind), trivial⟩, zLe, trivial⟩
          ·refine z7 Z Z c7<|z8 (zl j6 Z j8 (by decide) Z Z)<|z7 Z Z c7<|z8 (zm (c := .fro _ _) jg Z ⟨_, .head⟩ Z)<|z7 Z Z c7<|zVGvlenM j4 Z<|z7 Z Z c7<|z8 (yt Z Z)<|zVzPf Z c7 Z<|z6 ?_
           exact ⟨(), zR8, ⟨jb (by simp_all <;> grind), trivial⟩, zLe, trivial⟩
         ·rintro _ _
          refine zr Z (fun cp=>?_) (fun cp=>?_)
          ·refine zSr<|zVzAb Z<|z6<|zi<|zj (x := .bool _) Z ?_
           exact ⟨_, rfl, fun h => (by cases h), fun hl => absurd hl (fun hl => by obtain ⟨_, _, _, _, h4⟩ := hl.2.2.2.2.1 _ (qh hk1); have h5 := h4 _ (qh hm1); have h9 := little_le hl hk1; have hwb : wB f.blocks[k] = f.blocks[k].name.size + 10 * (f.blocks[k].phis.length + f.blocks[k].insts.length) + wP f.blocks[k].phis + wX f.blocks[k].insts := rfl; have h10 := wX_take f.blocks[k].insts m; simp only [Bool.or_eq_true, qt] at cp; omega)⟩
          ·rcases Bool.or_eq_false_iff.1 cp with ⟨a1, a2⟩
           have a2 := of_decide_eq_false a2
           refine ze<|zRg<|zVzMi Z<|z8 (zl j6 Z j8 (by decide) Z Z)<|z8 (zm (c := .fro _ _) jg Z ⟨_, .head⟩ Z)<|zVGvlenM j4 Z<|zVzAd Z Z<|zVzAi Z<|z6<|zRg<|zVzAd Z Z<|zVzMi Z<|z6 ?_
           exact ⟨m + 1, zR5, ⟨rfl, congrArg (AV.int .i64) (by rw [hs2]; omega), trivial⟩, ⟨_, (.drop (.refl _)), rfl⟩, ⟨hm1, by omega, forall_take hm1 hx (by omega)⟩, by omega⟩
        ·obtain rfl : m = f.blocks[k].insts.length := by omega
         rw [qi] at hwx hx
         rw [qi]
         refine zw<|zSr<|zVzMi Z<|z8 (yt Z Z)<|z6<|zq Z (fun cz=>?_) (fun cz=>?_)
         ·refine zSr<|zVzAb Z<|z6<|zi<|zj (x := .bool _) Z ?_
          exact ⟨_, rfl, fun h => (by cases h), fun hl => absurd hl (fun hl => by have h9 := little_le hl hk1; have hwb : wB f.blocks[k] = f.blocks[k].name.size + 10 * (f.blocks[k].phis.length + f.blocks[k].insts.length) + wP f.blocks[k].phis + wX f.blocks[k].insts := rfl; omega)⟩
         ·have hwb : wB f.blocks[k] = f.blocks[k].name.size + 10 * (f.blocks[k].phis.length + f.blocks[k].insts.length) + wP f.blocks[k].phis + wX f.blocks[k].insts := rfl
          refine ze<|zRg<|zVzAd Z Z<|zVzMi Z<|z6 ?_
          exact ⟨k + 1, zR2, ⟨rfl, congrArg (AV.int .i64) (by rw [hs]; omega), trivial⟩, ⟨_, (.drop (.refl _)), rfl⟩, ⟨hk1, by omega, by omega, forall_take hk1 hb ⟨hsb.1, hsb.2.1, hsb.2.2, hp, hx⟩⟩, by omega⟩
    ·obtain rfl : k = f.blocks.length := by omega
     rw [qi] at hw2 hw3 hb
     refine zw<|zSr<|zVzAb Z<|z6<|zi<|zj (x := .bool _) Z ?_
     exact ⟨_, rfl, fun _ => ⟨hsz.1, hsz.2.1, hsz.2.2, hv, hb, fun hne => hw2 (List.length_pos_iff.2 hne)⟩, fun _ => rfl⟩
theorem lawShaped2_spec (f : PFunc) (hf : okFunc f) (hn : okNames f) (hL : Letters E) : AFun prog E 49 [.agg (encF f)] (.bool (decide (ShapedP f))) := by
 refine zo func49 Z (by decide) Z<|zSr<|y9 (cs := _) Z Z Z<|zVzAb Z<|z6<|zSr<|zVGvloadWF ji je Z Z<|zk (refShaped_spec _ (by assumption) (by assumption) hL) Z<|zVzAb Z<|z6<|zi<|zj (x := .bool _) Z ?_
 rfl
noncomputable def fewB (f : PFunc) : Bool := @decide (little f) (Classical.propDecidable _)
theorem fewB_iff (f : PFunc) : fewB f = true ↔ little f := by unfold fewB; exact @decide_eq_true_iff _ (Classical.propDecidable _)
theorem fewT_spec (f : PFunc) (hf : wFunc f) : AFun prog E 11 [.agg (encF f)] (.bool (fewB f)) :=
 (fewIff_spec f hf).mono fun x O' ⟨b, e, h⟩ => by
  rw [e]
  congr 1
  rw [Bool.eq_iff_iff, h, fewB_iff]
theorem refPlain_spec (f : PFunc) (hE : EndsOk f) (hf : small f) (hS : ShapedP f) : AFun prog E 54 [.agg (encF f)] (.bool (plainB f && singR f)) := by
 have hn := hf.2.2.1
 refine zo func54 Z (by decide) Z<|zSr<|y9 (cs := _) Z Z Z<|zVzAb Z<|z6<|za<|zSr<|zVzFF j9 Z jp Z Z<|zVzLf jt Z<|zVGvlenM jf Z<|zVzMi Z<|z6<|zg<|zx (γ := Nat) [1, 8, 9] (fun i => [(10, .int .i64 i)]) (fun i => []) (fun i => i ≤ f.blocks.length ∧ (f.blocks.take i).all (fun b => !(b.insts.any fun x => decide (x.op = 25) || decide (x.op = 26))) = true) (fun i => f.blocks.length - i) 0 zR1 zLe (⟨qg _, Z⟩) ?_
 rintro i ⟨hi, hall⟩
 refine zSr<|zVGvlss Z Z<|z6<|za<|zq Z (fun ci=>?_) (fun ci=>?_)
 ·have hi2 : i < f.blocks.length := by simp at ci; omega
  obtain ⟨b, hbi⟩ : ∃ b, f.blocks[i] = b := ⟨_, rfl⟩
  have hget : f.blocks[i]? = some b := by rw [qd hi2, hbi]
  have hmem : b ∈ f.blocks := hbi ▸ qh hi2
  obtain ⟨hb0, hb1, hb2, hb3, hb4⟩ := hf.2.2.2.2 b hmem
  obtain ⟨hPh, hIn, hTm⟩ := hS.2.2.2.2.2 b hmem
  refine ze<|za<|zg<|zSr<|z8 (zIM i jf jk Z Z Z hget)<|zVGvloadWF Zk jk Z Z<|zz (cs := [.str ⟨#[]⟩, .raw (.slice none 0 0), .raw (.slice none 0 0), .int .i64 0, .int .i64 0, .int .i64 0, .int .i64 0]) ju Z Z<|fun i4 => zu jk Z Z Z Z Z Z .head Z<|zd (ye (t := 4) Z .head)<|z6<|zSr<|zVzFF j7 Z jv Z Z<|zVzLf Z5 Z<|zVGvlenM jh Z<|zVzMi Z<|z6<|zg<|zx (γ := Nat) [1, 8, 9, 10, 15, 16] (fun k => [(17, .int .i64 k)]) (fun k => []) (fun k => k ≤ b.insts.length ∧ (b.insts.take k).all (fun x => !(decide (x.op = 25) || decide (x.op = 26))) = true) (fun k => b.insts.length - k) 0 zR1 zLe (⟨qg _, Z⟩) ?_
  rintro k ⟨hk, hkall⟩
  refine zSr<|zVGvlss Z Z<|z6<|za<|zq Z (fun ck=>?_) (fun ck=>?_)
  ·have hk2 : k < b.insts.length := by simp at ck; omega
   have hI := (instP_F (hIn _ (qh hk2))).op
   refine ze<|za<|zg<|zSr<|z8 (zIM k jh jm Z Z Z (qd hk2))<|zVGvloadWF Zh jm Z Z<|zz (cs := [.int .i64 0, .int .i64 0, .raw (.slice none 0 0), .int .i64 0]) jz Z Z<|fun i6 => zu jm Z Z Z Z Z Z .head Z<|zd (ye (t := 6) Z .head)<|z6<|zSr<|zVzFF j6 Z Z1 Z Z<|zVzLi Za Z<|z8 (qb Z Z)<|z6<|zq Z (fun cq=>?_) (fun cq=>?_)
   ·have hbad : (b.insts.any fun x => decide (x.op = 25) || decide (x.op = 26)) = true := List.any_eq_true.2 ⟨_, qh hk2, by simp; omega⟩
    refine zSr<|zVzAb Z<|z6<|zi<|zj (x := .bool _) Z ?_
    rw [show plainB f = false from Bool.eq_false_iff.2 (all_bad hi2 (by rw [hbi, hbad]; rfl))]; rfl
   ·refine ze<|zRg<|zVzAd Z Z<|zVzMi Z<|z6 ?_
    exact ⟨k + 1, zR6, zR1, zLe, ⟨hk2, all_take hk2 hkall (by simp; omega)⟩, by omega⟩
  ·have hkn : k = b.insts.length := by simp at ck; omega
   rw [hkn, qi] at hkall
   have hgood : (b.insts.any fun x => decide (x.op = 25) || decide (x.op = 26)) = false := List.any_eq_false.2 fun x hx => by have := List.all_eq_true.1 hkall x hx; simpa using this
   refine zw<|zRg<|zVzAd Z Z<|zVzMi Z<|z6 ?_
   exact ⟨i + 1, zR3, zR1, zLe, ⟨hi2, all_take hi2 hall (by rw [hbi, hgood]; rfl)⟩, by omega⟩
 ·have hin : i = f.blocks.length := by simp at ci; omega
  rw [hin, qi] at hall
  refine zw<|zSr<|zVGvloadWF ji je Z Z<|zk (refSingle_spec f hE hf hS) Z<|zVzAb Z<|z6<|zi<|zj (x := .bool _) Z ?_
  rw [show plainB f = true from hall]; rfl
theorem lawTyped8_spec (f : PFunc) (hf : small f) (hL : Letters E) : AFun prog E 18 [.agg (encF f)] (.bool (typedB f)) := by
 have hs := lawShaped2_spec (E := E) f hf.ok hf.names hL
 refine zo func18 Z (by decide) Z<|zSr<|y9 (cs := _) Z Z Z<|zVzAb Z<|z6<|zSr<|zVGvloadWF ji je Z Z<|zk (hs) Z ?_
 by_cases g4 : ShapedP f
 ·refine zVzMb Z<|z7 Z Z (qp g4)<|zVGvloadWF ji je Z Z<|z7 Z Z (qp g4)<|zk (refTyped_spec f hf g4) Z<|z8 (zPt Z (qp g4) Z)<|zVzAb Z<|z6<|zi<|zj (x := .bool _) Z ?_
  exact jb (by unfold typedB; rw [shapedB_eq, qp g4]; rfl)
 ·refine zVzMb Z<|z2 Z Z (qq g4)<|z2 Z Z (qq g4)<|z8 (zPf Z (qq g4) Z)<|zVzAb Z<|z6<|zi<|zj (x := .bool _) Z ?_
  exact jb (by unfold typedB; rw [shapedB_eq, qq g4]; rfl)
theorem lawTyped_spec (f : PFunc) (hw : wFunc f) (hL : Letters E) : AFun prog E 44 [.agg (encF f)] (.bool (fewB f && typedB f)) := by
 refine zo func44 Z (by decide) Z<|zSr<|y9 (cs := _) Z Z Z<|zVzAb Z<|z6<|zSr<|zVGvloadWF ji je Z Z<|zk (fewT_spec f hw) Z<|zVzMb Z<|zn (s := 5) Z (fun g=>?_) (fun g=>?_)
 ·refine z7 Z Z g<|zVGvloadWF ji je Z Z<|z7 Z Z g<|zk (lawTyped8_spec f ((fewB_iff f).1 g).small hL) Z<|zVzPt Z g Z<|zVzAb Z<|z6<|zi<|zj (x := .bool _) Z ?_
  exact jb (by rw [g]; rfl)
 ·refine z2 Z Z g<|z2 Z Z g<|zVzPf Z g Z<|zVzAb Z<|z6<|zi<|zj (x := .bool _) Z ?_
  exact jb (by rw [g]; rfl)
noncomputable def lawSing (f : PFunc) : Bool := fewB f && typedB f && singB f
noncomputable def lawPlain (f : PFunc) : Bool := fewB f && typedB f && (singB f && plainB f)
theorem and3 {a b : Bool} (h : (a && b) = true) : a = true ∧ b = true := by simpa using h
theorem singR_typed {f : PFunc} (h : typedB f = true) : singR f = singB f :=
 singR_eq (typedB_ends h) fun b hb p hp c hc => by
  have h1 := ((typedB_shaped h).2.2.2.2.2 b hb).1 p hp
  have h2 := List.all_eq_true.1 h1.2.2.2.2 c hc
  simpa [hasB] using h2
theorem lawSingle_spec (f : PFunc) (hw : wFunc f) (hL : Letters E) : AFun prog E 13 [.agg (encF f)] (.bool (lawSing f)) := by
 refine zo func13 Z (by decide) Z<|zSr<|y9 (cs := _) Z Z Z<|zVzAb Z<|z6<|zSr<|zVGvloadWF ji je Z Z<|zk (lawTyped_spec f hw hL) Z<|zVzMb Z<|zn (s := 5) Z (fun g=>?_) (fun g=>?_)
 ·refine z7 Z Z g<|zVGvloadWF ji je Z Z<|z7 Z Z g<|zk (refSingle_spec f (typedB_ends (and3 g).2) ((fewB_iff f).1 (and3 g).1).small (typedB_shaped (and3 g).2)) Z<|zVzPt Z g Z<|zVzAb Z<|z6<|zi<|zj (x := .bool _) Z ?_
  exact jb (by unfold lawSing; rw [g, singR_typed (and3 g).2]; rfl)
 ·refine z2 Z Z g<|z2 Z Z g<|zVzPf Z g Z<|zVzAb Z<|z6<|zi<|zj (x := .bool _) Z ?_
  exact jb (by unfold lawSing; rw [g]; rfl)
theorem lawPlain_spec (f : PFunc) (hw : wFunc f) (hL : Letters E) : AFun prog E 23 [.agg (encF f)] (.bool (lawPlain f)) := by
 refine zo func23 Z (by decide) Z<|zSr<|y9 (cs := _) Z Z Z<|zVzAb Z<|z6<|zSr<|zVGvloadWF ji je Z Z<|zk (lawTyped_spec f hw hL) Z<|zVzMb Z<|zn (s := 5) Z (fun g=>?_) (fun g=>?_)
 ·refine z7 Z Z g<|zVGvloadWF ji je Z Z<|z7 Z Z g<|zk (refPlain_spec f (typedB_ends (and3 g).2) ((fewB_iff f).1 (and3 g).1).small (typedB_shaped (and3 g).2)) Z<|zVzPt Z g Z<|zVzAb Z<|z6<|zi<|zj (x := .bool _) Z ?_
  exact jb (by unfold lawPlain; rw [g, singR_typed (and3 g).2, Bool.and_comm]; rfl)
 ·refine z2 Z Z g<|z2 Z Z g<|zVzPf Z g Z<|zVzAb Z<|z6<|zi<|zj (x := .bool _) Z ?_
  exact jb (by unfold lawPlain; rw [g]; rfl)
end Go.Proofs.YtiojekbkamegdaaGreatDoor
namespace Go.Proofs.YtiojekbkamegdaaGreatDoor
open Go.Proofs.Tryz
end Go.Proofs.YtiojekbkamegdaaGreatDoor
namespace Go.Proofs.YtiojekbkamegdaaGreatDoor
open Go.Proofs.Tryz
open Go.Proofs Go.Lib Go.Shelf Go.RowKit
variable {E : World}
set_option maxRecDepth 20000
end Go.Proofs.YtiojekbkamegdaaGreatDoor
namespace Go.Proofs.YtiojekbkamegdaaGreatDoor
open Go.Proofs.Tryz
open Go.Proofs Go.Lib Go.Shelf Go.RowKit
theorem pl61 : Places prog 61 #[(0, 1), (1, 1), (2, 1), (3, 1)] [.int .i64 0, .int .i64 0, .raw (.slice none 0 0), .int .i64 0] := ⟨_, _, j6, jz, fun w => by kernel_rfl, rfl⟩
variable {E : World}
set_option maxRecDepth 20000
end Go.Proofs.YtiojekbkamegdaaGreatDoor
namespace Go.Proofs.YtiojekbkamegdaaGreatDoor
open Go.Proofs.Tryz
open Go.Proofs Go.Lib Go.Shelf Go.RowKit
theorem ps161_1 : PlacesS prog 161 163 1 4 [.int .i64 0, .int .i64 0, .int .i64 0, .int .i64 0] := ⟨_, underlying161, Zb, Y3, by decide, by decide, by kernel_rfl⟩
variable {E : World}
set_option maxRecDepth 20000
theorem kids_get (f : PFunc) {i : Nat} (hi : i < f.blocks.length) : (kidsR f)[i]? = some (kidsOf (EndsOf f) f.blocks.length i) := by
 unfold kidsR
 rw [rowsOf_get _ hi]
 congr 1
 unfold evK kidsOf
 rw [List.filter_map, List.map_map, List.filter_filter]
 have : ((fun p : Int × Int => p.2) ∘ fun b => (gi (nearR (EndsOf f) f.blocks.length) b, b)) = _root_.id := rfl
 rw [this, List.map_id]
 refine List.filter_congr fun c _ => ?_
 simp [Function.comp, Bool.and_comm]
theorem Kids_spec (f : PFunc) (hE : EndsOk f) (hn : f.blocks.length ≤ 1000) {i : Nat} (hi : i < f.blocks.length) (hr : (i : Int) ∈ orderT (EndsOf f) f.blocks.length) (y : AV) : AFun prog E 95 [treeV f (froN eI (kidsR f)) y, .int .i64 i] (.fro 1 ((kidsOf (EndsOf f) f.blocks.length i).map encI)) := by
 have hlev : decide (gi (levG (EndsOf f) f.blocks.length) (i : Int) ≠ -1) = true := qp ((hE.grph.lev_mem _).2 hr)
 have hkl : (kidsOf (EndsOf f) f.blocks.length i).length ≤ 1000 := by
  unfold kidsOf
  exact Nat.le_trans (List.length_filter_le _ _) (by rw [intsTo_len]; exact hn)
 have hget : ((kidsR f).map fun r => [AV.fro 1 (r.map eI.row)])[i]? = some [.fro 1 ((kidsOf (EndsOf f) f.blocks.length i).map encI)] := by rw [ql, kids_get f hi]; rfl
 have hh := thas_spec (E := E) (levG (EndsOf f) f.blocks.length) (i : Int) (.fro 1 ((nearR (EndsOf f) f.blocks.length).map encI)) (froN eI (kidsR f)) y (by rw [hE.grph.lev.len]; exact hn)
 unfold treeV froN
 unfold froN at hh
 refine zo func95 Z (by decide) Z<|zSr<|z8 (zAr Z)<|z6<|za<|zSr<|z8 (zMg Z)<|zVzMi Z<|zk (hh) Z<|zVGvnot Z<|z6<|yg Z (by rw [hlev]; rfl)<|ze<|zSr<|z8 (zMg Z)<|z8 (Gv.nilCheckF Z)<|zVzFF jq Z Y4 Z Z<|zVzLf isAgg118 Z<|zVzMi Z<|z8 (Gv.idxF (j := i) ja j8 Z Z Z hget)<|zVzLf jg Z<|zk (cloneI_spec _ hkl) Z<|z8 (zAf Z)<|z6<|zi<|zj (x := .fro _ _) Z ?_
 rfl
theorem root_map {f : PFunc} {r : Int → Int} {rk : Nat → Nat → Nat} (h : NumW f r rk) {V : Int → Bool} {i k : Nat} (hV : VisB f V i) {l : List Int} (hl : ∀ v ∈ l, (0 ≤ v ∧ v < f.vars.length) ∧ Av f i k v) : l.map (vi (rootL f r (Dk V i k))) = l.map r := List.map_congr_left fun v hv => by
 obtain ⟨⟨h0, h1⟩, ha⟩ := hl v hv
 unfold vi
 rw [root_at h hV h0 h1 ha]; rfl
def inK (r : Int → Int) (l : List PInst) : List PInst := (l.filter (keepI r)).map (mapI r)
def wkC (f : PFunc) (ib jr bm : Nat) : List AV := [.fro 2 (f.vars.map encVar), .fro 1 (f.params.map encI), .own ib f.blocks.length, treeT f, .own jr f.vars.length, mref bm]
def nsO (f : PFunc) (iw ib jr bm : Nat) (ns : List NBk) (R : List Int) (T : List (K4 × Int)) : OL := [(iw, .cells 89 (wkC f ib jr bm)), (ib, .grow 7 58 (ns.flatMap nbC)), (jr, .grow 1 3 (cI R)), (0, mapK bm T), (0, bag (ns.flatMap nbO))]
theorem drop_at {α : Type} {P R : List α} {n : Nat} (h : P.length = n) (j : Nat) : (P ++ R).drop (n + j) = R.drop j := by
 subst h; rw [List.drop_append, List.drop_eq_nil_of_le (by omega), List.nil_append, Nat.add_sub_cancel_left]
theorem set_at {α : Type} {P R : List α} {n : Nat} (h : P.length = n) (j : Nat) (v : α) : (P ++ R).set (n + j) v = P ++ R.set j v := by
 subst h; rw [List.set_append_right _ _ (by omega), Nat.add_sub_cancel_left]
theorem get_at {α : Type} {P R : List α} {n : Nat} (h : P.length = n) (j : Nat) : (P ++ R)[n + j]? = R[j]? := by
 subst h; rw [List.getElem?_append_right (by omega), Nat.add_sub_cancel_left]
theorem split_at {α : Type} {l : List α} {i : Nat} {a : α} (h : l[i]? = some a) : ∃ A D, l = A ++ a :: D ∧ A.length = i := by
 obtain ⟨hi, e⟩ := List.getElem?_eq_some_iff.1 h
 exact ⟨l.take i, l.drop (i + 1), by rw [← e, ← List.drop_eq_getElem_cons hi, List.take_append_drop], by rw [qo]; omega⟩
theorem bag_split (A D : List NBk) (b : PBlock) (phn isn : List Nat) : ((A ++ (b, phn, isn) :: D).flatMap nbO).Perm (List.zipWith argX isn b.insts ++ (List.zipWith argP phn b.phis ++ (A.flatMap nbO ++ D.flatMap nbO))) := by
 rw [List.flatMap_append, List.flatMap_cons]
 show (A.flatMap nbO ++ ((List.zipWith argX isn b.insts ++ List.zipWith argP phn b.phis) ++ D.flatMap nbO)).Perm _
 rw [qf]
 exact (List.perm_append_comm_assoc _ _ _).trans ((List.perm_append_comm_assoc _ _ _).append_left _)
def BlkS (E : World) (f : PFunc) (r : Int → Int) (iw jr bm : Nat) (m : Nat) : Prop :=
 ∀ (i : Nat) (b : PBlock) (V : Int → Bool) (ib : Nat) (ns : List NBk) (T : List (K4 × Int)), f.blocks[i]? = some b → (f.blocks.length : Int) - gi (levG (EndsOf f) f.blocks.length) i < m → VisB f V i → ns.map (·.1) = blksV f r V → (∀ q ∈ ns, okNB q) → TAt f r i 0 T →
  ACall prog E 42 [.po iw 0, .int .i64 i] (nsO f iw ib jr bm ns (rootL f r fun m => V m.1) T) (fun y O => ∃ g : List NBk × List (K4 × Int), y = .tup [] ∧ O = nsO f iw ib jr bm g.1 (rootL f r fun m => V m.1 || domB (EndsOf f) f.blocks.length i m.1) g.2 ∧ g.1.map (·.1) = blksV f r (fun j => V j || domB (EndsOf f) f.blocks.length i j) ∧ (∀ q ∈ g.1, okNB q) ∧ TAt f r i 0 g.2)
structure NumA (f : PFunc) (r : Int → Int) (rk : Nat → Nat → Nat) : Prop where
 hf : small f
 hE : EndsOk f
 hA : AllRP f
 hB : BehP f
 hav : ∀ b ∈ f.blocks, ∀ x ∈ b.insts, ∀ v ∈ x.args, 0 ≤ v ∧ v < f.vars.length
 htv : ∀ b ∈ f.blocks, ¬ b.term.kind = 0 → 0 ≤ b.term.var ∧ b.term.var < f.vars.length
 hW : NumW f r rk
theorem block_zero (f : PFunc) (r : Int → Int) (hE : EndsOk f) (hA : AllRP f) (iw jr bm : Nat) : BlkS E f r iw jr bm 0 := by
 intro i b V ib ns T hb hm _ _ _ _
 have hi := (List.getElem?_eq_some_iff.1 hb).1
 have hG := hE.grph
 have ho := (order_mem hG.toEOk (i : Int)).2 (hA i hi)
 have h1 := lev_lt hG ho
 have h2 := hG.at_lt ho
 have h3 := order_len hG
 omega
set_option maxHeartbeats 32000000 in
theorem block_step {r : Int → Int} {rk : Nat → Nat → Nat} (f : PFunc) (hN0 : NumA f r rk) (iw jr bm mm : Nat) (ih : BlkS E f r iw jr bm mm) : BlkS E f r iw jr bm (mm + 1) := by
 intro i b V ib ns T hb hm hV hns hok hT
 obtain ⟨hf, hE, hA, hB, hav, htv, hW⟩ := hN0
 have hi := (List.getElem?_eq_some_iff.1 hb).1
 have hG := hE.grph
 have hall : ∀ j : Int, 0 ≤ j → j < f.blocks.length → j ∈ orderT (EndsOf f) f.blocks.length := fun j h0 h1 => by
  obtain ⟨q, rfl⟩ : ∃ q : Nat, j = (q : Int) := ⟨j.toNat, by omega⟩
  exact (order_mem hG.toEOk _).2 (hA q (by omega))
 have ho := hall i (by omega) (by omega)
 have hVi : V (i : Int) = false := hV.2 i (.refl (hA i hi))
 obtain ⟨hf1, hf2, hf3, hf4, hf5⟩ := id hf
 have hbm := qm hb
 obtain ⟨hb0, hb1, hb2, hb3, hb4⟩ := hf5 b hbm
 have hbe : f.blocks[i] = b := (List.getElem?_eq_some_iff.1 hb).2
 have hbeh := hB i hi
 rw [hbe] at hbeh
 obtain ⟨⟨b', phn, isn⟩, hnq, hq1⟩ : ∃ q, ns[i]? = some q ∧ q.1 = b := by
  have h1 : (ns.map (·.1))[i]? = some b := by rw [hns, blksV_get hb, if_neg (by rw [hVi]; decide)]
  rw [ql] at h1
  cases hq : ns[i]? with
  | none => rw [hq] at h1; cases h1
  | some q => rw [hq] at h1; exact ⟨q, rfl, Option.some.inj h1⟩
 obtain rfl : b = b' := hq1.symm
 obtain ⟨hok1, hok2⟩ : phn.length = b.phis.length ∧ isn.length = b.insts.length := hok _ (qm hnq)
 obtain ⟨A, D, rfl, hAl⟩ := split_at hnq
 obtain ⟨P, hP⟩ : ∃ P, A.flatMap nbC = P := ⟨_, rfl⟩
 obtain ⟨S, hS⟩ : ∃ S, D.flatMap nbC = S := ⟨_, rfl⟩
 have hPl : P.length = i * 7 := by rw [← hP, nbC_len, hAl]
 have hcell : (A ++ (b, phn, isn) :: D).flatMap nbC = P ++ (([.str b.name, .fro 3 (List.zipWith phW phn b.phis), .fro 4 (List.zipWith inW isn b.insts), .int .i64 b.term.kind, .int .i64 b.term.var, .int .i64 b.term.to0, .int .i64 b.term.to1] : List AV) ++ S) := by
  rw [List.flatMap_append, List.flatMap_cons, hP, hS]; rfl
 have hnl : A.length + (D.length + 1) = f.blocks.length := by
  have := congrArg List.length hns
  rw [qk, blksV_len, qj, List.length_cons] at this
  omega
 have hcl : ∀ x, (P ++ (([.str b.name, .fro 3 (List.zipWith phW phn b.phis), x, .int .i64 b.term.kind, .int .i64 b.term.var, .int .i64 b.term.to0, .int .i64 b.term.to1] : List AV) ++ S)).length = f.blocks.length * 7 := fun x => by
  have h1 : S.length = D.length * 7 := by rw [← hS, nbC_len]
  rw [qj, qj, hPl, h1]
  show i * 7 + (7 + D.length * 7) = _
  omega
 have hzl : (List.zipWith inW isn b.insts).length = b.insts.length := by rw [List.length_zipWith, hok2, Nat.min_self]
 obtain ⟨X, hX⟩ : ∃ X, List.zipWith argP phn b.phis ++ (A.flatMap nbO ++ D.flatMap nbO) = X := ⟨_, rfl⟩
 have hbag := bag_split A D b phn isn
 rw [hX] at hbag
 have hargs : ∀ k, ∀ h : k < b.insts.length, ∀ v ∈ b.insts[k].args, (0 ≤ v ∧ v < f.vars.length) ∧ Av f i k v := fun k h v hv => ⟨hav b hbm _ (qh h) v hv, hbeh.2.1 k h v hv⟩
 refine ACall.exact (γ := List NBk × List (K4 × Int)) (x := fun _ => .tup []) (M := fun g => nsO f iw ib jr bm g.1 (rootL f r fun m => V m.1 || domB (EndsOf f) f.blocks.length i m.1) g.2) (p := fun g => g.1.map (·.1) = blksV f r (fun j => V j || domB (EndsOf f) f.blocks.length i j) ∧ (∀ q ∈ g.1, okNB q) ∧ TAt f r i 0 g.2) ?_
 unfold nsO
 rw [hcell, root_first hW V i]
 refine zo func42 Z (by decide) Z<|zSr<|z8 (zMp Z)<|z8 (yd Z)<|z8 (zl Ze Z je (by decide) Z Z)<|z8 (zl j9 Z jp (by decide) Z Z)<|z8 (zm (c := .own _ _) jt Z ⟨_, .head⟩ Z)<|zVzMi Z<|z8 (Gv.idxO (j := i) jf jk Z Z Z ⟨_, .t1⟩ (fun h => by have := hcl (.fro 4 []); have h2 := congrArg List.length h; simp at h2) hi)<|z8 (zAp Z)<|z6<|zSr<|z8 (zMp Z)<|z8 (yd Z)<|z8 (zl j7 Z jv (by decide) Z Z)<|z8 (Gv.load1G (c := _) Z5 Z ⟨_, .t1⟩ (drop_at hPl 2))<|z8 (zAf Z)<|z6<|zSr<|z8 (zMp Z)<|z8 (yd Z)<|z8 (zl j7 Z jv (by decide) Z Z)<|AOps.storeGN (new := P ++ (([.str b.name, .fro 3 (List.zipWith phW phn b.phis), .raw (.slice none 0 0), .int .i64 b.term.kind, .int .i64 b.term.var, .int .i64 b.term.to0, .int .i64 b.term.to1] : List AV) ++ S)) jv Z Z Z Z Z .t1 (show i * 7 + 2 < _ from Nat.lt_of_lt_of_eq (m := f.blocks.length * 7) (by omega) (hcl _).symm) (set_at hPl 2 _)<|z6<|zSr<|z8 (zAr Z)<|z6<|za<|zSr<|zVzMf Z<|z8 (Gv.lenF jh Z)<|zVzMi Z<|z6<|adoptG_wp (off := i * 7 + 2) (k := 4) (T := 61) (fun _ => .tail .head) (fun _ => set_at hPl 2 _) (get_at hPl 2)<|fun ii => zy (GStep.bagPerm (X' := List.zipWith argX isn b.insts ++ X) (hbag) .t5)<|adopt_wp (t := 6) (k := 4) (T := 163) Z<|fun i6 => zg<|zx (γ := Nat × Nat × Nat × List Nat × List (K4 × Int)) [0, 1, 4, 30, 31] (fun g => [(32, .int .i64 g.2.1), (6, .own g.1 (mineL r (b.insts.take g.2.1)).length)]) (fun g => [(g.1, .grow 4 163 ((mineL r (b.insts.take g.2.1)).map k4).flatten), (g.2.2.1, .grow 4 61 (List.zipWith inW g.2.2.2.1 (inK r (b.insts.take g.2.1))).flatten), (iw, .cells 89 (wkC f ib jr bm)), (ib, .grow 7 58 (P ++ (([.str b.name, .fro 3 (List.zipWith phW phn b.phis), .own g.2.2.1 (inK r (b.insts.take g.2.1)).length, .int .i64 b.term.kind, .int .i64 b.term.var, .int .i64 b.term.to0, .int .i64 b.term.to1] : List AV) ++ S))), (jr, .grow 1 3 (cI (rootL f r (Dk V i g.2.1)))), (0, mapK bm g.2.2.2.2), (0, bag (List.zipWith argX g.2.2.2.1 (inK r (b.insts.take g.2.1)) ++ (List.zipWith argX (isn.drop g.2.1) (b.insts.drop g.2.1) ++ X)))]) (fun g => g.2.1 ≤ b.insts.length ∧ g.2.2.2.1.length = (inK r (b.insts.take g.2.1)).length ∧ TAt f r i g.2.1 g.2.2.2.2) (fun g => b.insts.length - g.2.1) (i6, 0, ii, [], T) zR2 zLe (⟨qg _, Z, hT⟩) ?_
 rintro ⟨im, k, ii, kn, T⟩ ⟨hk, hkn, hTk⟩
 try dsimp only at *
 refine zSr<|zVGvlss Z Z<|z6<|za<|zq Z (fun ck=>?_) (fun ck=>?_)
 ·have hk2 : k < b.insts.length := by rw [hzl] at ck; omega
  obtain ⟨a, ha⟩ : ∃ a, isn[k]? = some a := ⟨_, qd (by omega)⟩
  obtain ⟨x, hx⟩ : ∃ x, b.insts[k]? = some x := ⟨_, qd hk2⟩
  have hxe : b.insts[k] = x := (List.getElem?_eq_some_iff.1 hx).2
  have hAt : AtI f i k x := ⟨b, hb, hx⟩
  have hrow : (List.zipWith inW isn b.insts)[k]? = some (inW a x) := by rw [List.getElem?_zipWith, ha, hx]
  have hargk : ∀ v ∈ x.args, (0 ≤ v ∧ v < f.vars.length) ∧ Av f i k v := fun v hv => hargs k hk2 v (by rw [hxe]; exact hv)
  have hx1 := hb4 x (qm hx)
  have hdi : isn.drop k = a :: isn.drop (k + 1) := by
   obtain ⟨h1, h2⟩ := List.getElem?_eq_some_iff.1 ha
   rw [← h2]; exact List.drop_eq_getElem_cons h1
  have hdb : b.insts.drop k = x :: b.insts.drop (k + 1) := by rw [← hxe]; exact List.drop_eq_getElem_cons hk2
  have hml : (mineL r (b.insts.take k)).length ≤ k := fm_len
  have hil : (inK r (b.insts.take k)).length ≤ k := fm_len
  refine ze<|za<|zg<|zSr<|z8 (Gv.idxF (j := k) jh jm Z Z Z hrow)<|zVGvloadWF Zh jm Z Z<|zz (cs := [.int .i64 0, .int .i64 0, .raw (.slice none 0 0), .int .i64 0]) jz Z Z<|fun i8 => zu jm Z Z Z Z Z Z .head Z<|zd (ye (t := 8) Z .head)<|z6<|zy (GStep.bagOut (i := a) (o := .grow 1 3 (cI x.args)) (X' := List.zipWith argX kn (inK r (b.insts.take k)) ++ (List.zipWith argX (isn.drop (k + 1)) (b.insts.drop (k + 1)) ++ X)) ((by rw [hdi, hdb]; exact List.perm_middle)) .t6)<|zSr<|z8 (zMp Z)<|zVzFF j6 Z j8 Z Z<|z8 (yv (c := .own _ _) jg Z)<|y4 Z (zp (.l (.r (.r (.l (.r (.l (.r (.r (.rest _)))))))))) (put_spec iw jr a _ _ _ _ _ f.vars.length (rootL f r (Dk V i k)) x.args (rootL_len f r _) (fun v hv => ⟨(hargk v hv).1.2, (hargk v hv).1.1⟩) hx1) ?_
  rintro r39 O39 ⟨rfl, rfl⟩
  refine z6 ?_
  rw [root_map hW hV hargk]
  refine zSr<|zVGvloadWF Zh jm Z Z<|y4 Z (zp (.l (.r (.r (.r (.r (.r (.r (.r (.rest _)))))))))) (tells_spec a x.args.length (mapI r x) (qk ..)) ?_
  rintro r41 O41 ⟨_, rfl, rfl, _⟩
  refine zz (cs := [.int .i64 0, .int .i64 0, .int .i64 0, .int .i64 0]) Y3 Z Z<|fun i9 => zu Zb Z Z Z Z Z Z .head Z<|zd (ye (t := 9) Z .head)<|z6<|za<|y8 (fun j => false) (by kernel_rfl) Z (zp (.l (.r (.l (.l (.l (.l (.r (.rest _)))))))))<|zTk 0 Z (zMp Z)<|zTk 1 Z (yd Z)<|zTk 2 Z (zl Ze Z sizeOf87 (by decide) Z Z)<|zTk 3 Z (zm (c := mref _) isAgg87 Z ⟨_, .head⟩ Z)<|zTk 4 Z (yk Y0 Zb Z Z)<|zTk 5 Z (Gv.lookupK key4_ok underlying87 Zy Z Z ⟨_, .t1⟩)<|zTk 6 Z (zMu Z)<|zTk 7 Z (zXi Z Z)<|zTk 8 Z (zXb Z Z)<|zTk 9 Z (zAi Z)<|zTk 10 Z (zAb Z)<|zDn<|zy (zb (zc .t7))<|zy (zb (zc .t3))<|zy (zb (zc .t3))<|zy (zb (zc .t4))<|zy (zb (zc .t7))<|zy (zb (zc .t5))<|zy (zb (zc .t7))<|zy (zb (zc .t7))<|za<|yo (γ := Nat × List (K4 × Int)) [0, 1, 4, 8, 30, 31, 32] (fun g => [(6, .own g.1 (mineL r (b.insts.take (k + 1))).length)]) (fun g => [(g.1, .grow 4 163 ((mineL r (b.insts.take (k + 1))).map k4).flatten), (ii, .grow 4 61 (List.zipWith inW kn (inK r (b.insts.take k))).flatten), (iw, .cells 89 (wkC f ib jr bm)), (ib, .grow 7 58 (P ++ (([.str b.name, .fro 3 (List.zipWith phW phn b.phis), .own ii (inK r (b.insts.take k)).length, .int .i64 b.term.kind, .int .i64 b.term.var, .int .i64 b.term.to0, .int .i64 b.term.to1] : List AV) ++ S))), (jr, .grow 1 3 (cI (rootL f r (Dk V i (k + 1))))), (0, mapK bm g.2), (a, .grow 1 3 (cI (x.args.map r))), (0, bag (List.zipWith argX kn (inK r (b.insts.take k)) ++ (List.zipWith argX (isn.drop (k + 1)) (b.insts.drop (k + 1)) ++ X)))]) (fun g => keepI r x = true ∧ TAt f r i (k + 1) g.2) ?_ (fun _ _ h => h) ?_
  ·refine zg<|zSr<|zVzFF j6 Z Z1 Z Z<|zVzLi Za Z<|zk (counts_spec _) Z<|zVzMb Z<|zn (s := 55) Z (fun cc=>?_) (fun cc=>?_)
   ·have hN : NumI f i k x := ⟨hAt, cc⟩
    obtain ⟨hd0, hd1⟩ := hW.ok.hD i k x hN
    refine z7 Z Z cc<|zVzMb Z<|zVzPt Z cc Z<|zVzAb Z<|z6<|zr Z (fun cs=>?_) (fun cs=>?_)
    ·obtain ⟨v, hv⟩ := Option.isSome_iff_exists.1 cs
     obtain ⟨hrv, hrne⟩ := told_old hW.ok.hH hW.hr hW.hK hTk hN hv
     have hkf : keepI r x = false := by unfold keepI; rw [cc]; simp [hrne]
     have hI1 : inK r (b.insts.take (k + 1)) = inK r (b.insts.take k) := fm_same hk2 (by rw [hxe]; exact hkf)
     have hM1 : mineL r (b.insts.take (k + 1)) = mineL r (b.insts.take k) := fm_same hk2 (by rw [hxe, cc]; simp [hrne])
     have he : (kget T (keyX (mapI r x))).getD 0 = r x.dst := by rw [hv]; exact hrv.symm
     refine za<|y8 (fun j => Nat.beq j 8) (by kernel_rfl) Z (zp (.l (.l (.r (.rest _)))))<|zTk 0 Z (zMp Z)<|zTk 1 Z (yd Z)<|zTk 2 Z (zl Ze Z j8 (by decide) Z Z)<|zTk 3 Z (zm (c := .own _ _) jg Z ⟨_, .head⟩ Z)<|zTk 4 Z (zFF j6 Z j5 Z Z)<|zTk 5 Z (zLi jd Z)<|zTk 6 Z (zMi Z)<|zOn 7 Z<|z8 (yn (j := x.dst.toNat) j4 j5 Z Z (by omega) ⟨_, .t3⟩ ((cI_len _).trans (rootL_len f r _)) (by omega))<|z6<|yp<|yx (i := 8) Z (by kernel_rfl) (by kernel_rfl)<|AOps.storeI (j := x.dst.toNat) j5 Z Z .t4 (by rw [rootL_len]; omega)<|z6<|yu (by kernel_rfl)<|zy (zb (zc .t7))<|zy (zb (zc .t6))<|zy (zb (zc .t6))<|zy (zb (zc .t6))<|zy (zb (zc .t4))<|zy (zb (zc .t6))<|zy (zb (zc .t6))<|zw<|zRg<|zVzAd Z Z<|zVzMi Z<|z6 ?_
     exact ⟨(im, k + 1, ii, kn, T), zR5, ⟨rfl, by rw [hM1]; rfl, trivial⟩, ⟨_, (.keep (.keep (.keep (.keep (.keep (.keep (.keep (.drop (.refl _))))))))), by rw [hI1, hM1, ← root_drop hW hN, ← he]; rfl⟩, ⟨hk2, by rw [hI1]; exact hkn, told_skip hTk fun y hy => by rw [hy.1.one hAt]; exact hrne⟩, by dsimp only; omega⟩
    ·have hv : kget T (keyX (mapI r x)) = none := by
      cases h : kget T (keyX (mapI r x)) with
      | none => rfl
      | some v => rw [h] at cs; cases cs
     have hre := told_new hW.hr hW.hK hTk hN hv
     have hM1 : mineL r (b.insts.take (k + 1)) = mineL r (b.insts.take k) ++ [(keyX (mapI r x))] := by rw [← hxe]; exact fm_push hk2 (by rw [hxe, cc]; simp [hre])
     have hkt : keepI r x = true := by unfold keepI; simp [hre]
     refine zSr<|zVzFF j6 Z Z1 Z Z<|zVzLi Za Z<|zk (counts_spec _) Z<|zVzAb Z<|z6<|yi Z cc<|za<|y8 (fun j => false) (by kernel_rfl) Z (zp (.l (.l (.r (.rest _)))))<|zTk 0 Z (zMp Z)<|zTk 1 Z (yd Z)<|zTk 2 Z (zl Ze Z sizeOf87 (by decide) Z Z)<|zTk 3 Z (zm (c := mref _) isAgg87 Z ⟨_, .head⟩ Z)<|zTk 4 Z (yk Y0 Zb Z Z)<|zTk 5 Z (zFF j6 Z j5 Z Z)<|zTk 6 Z (zLi jd Z)<|zOn 7 Z<|AOps.mapSetK key4_ok underlying87 Z Z Z .t4<|z6<|zDn<|zy (zb (zc .t7))<|zy (zb (zc .t7))<|zy (zb (zc .t7))<|zy (zb (zc .t7))<|zy (zb (zc .t7))<|zy (zb (zc .t5))<|zy (zb (zc .t7))<|zy (zb (zc .t7))<|zRg<|z8 (zMo Z)<|zVGvloadWF Y0 Zb Z Z<|zt (rows := [[_, _, _, _]]) ps161_1 Z Z Z Z Z<|yj (k := 4) underlying161 type163 Z Z Z Z Z (fun _ => .head) (grow_len (k := 4) (fun _ => Z) _) (by decide) Z (by show (_ + _) * 32 ≤ _; simp <;> omega) (by simp <;> omega)<|fun i80 => z8 (zAo Z)<|z6 ?_
     exact ⟨(i80, kset T (keyX (mapI r x)) x.dst), zR7, ⟨by rw [hM1, qj]; rfl, trivial⟩, ⟨_, (.refl _), by rw [hM1, ← grow_push rfl, root_keep hW hAt hkt]; rfl⟩, ⟨hkt, told_put hTk hN hv hre⟩⟩
   ·have hkt : keepI r x = true := by unfold keepI; rw [cc]; rfl
    have hM1 : mineL r (b.insts.take (k + 1)) = mineL r (b.insts.take k) := fm_same hk2 (by rw [hxe, cc]; rfl)
    refine z2 Z Z cc<|zVzPf Z cc Z<|zVzAb Z<|z6<|yg Z Z<|zSr<|zVzFF j6 Z Z1 Z Z<|zVzLi Za Z<|zk (counts_spec _) Z<|zVzAb Z<|z6<|yg Z cc<|zy (zb (zc .t7))<|zy (zb (zc .t7))<|zy (zb (zc .t7))<|zy (zb (zc .t7))<|zy (zb (zc .t7))<|zy (zb (zc .t7))<|zy (zb (zc .t7))<|zy (zb (zc .t7))<|ze ?_
    exact ⟨(im, T), zR7, ⟨by rw [hM1]; rfl, trivial⟩, ⟨_, (.refl _), by rw [hM1, root_keep hW hAt hkt]; rfl⟩, ⟨hkt, told_skip hTk fun y hy => by have := hy.2; rw [hy.1.one hAt, cc] at this; cases this⟩⟩
  ·rintro ⟨im2, T2⟩ ⟨hkt, hT2⟩
   have hI1 : inK r (b.insts.take (k + 1)) = inK r (b.insts.take k) ++ [mapI r x] := by rw [← hxe]; exact fm_push hk2 (by rw [hxe]; exact hkt)
   have hrow2 : inW a (mapI r x) = inW a x := by unfold inW mapI; simp
   have z1 : (List.zipWith inW (kn ++ [a]) (inK r (b.insts.take k) ++ [mapI r x])).flatten = (List.zipWith inW kn (inK r (b.insts.take k))).flatten ++ [inW a x].flatten := by
    rw [List.zipWith_append hkn, List.flatten_append]
    show _ ++ [inW a (mapI r x)].flatten = _
    rw [hrow2]
   refine y8 (fun j => Nat.beq j 10) (by kernel_rfl) Z (zp (.l (.l (.l (.r (.rest _))))))<|zTk 0 Z (zMp Z)<|zTk 1 Z (zMp Z)<|zTk 2 Z (yd Z)<|zTk 3 Z (zl j7 Z jv (by decide) Z Z)<|zTk 4 Z (Gv.load1G (c := _) Z5 Z ⟨_, .head⟩ (drop_at hPl 2))<|zTk 5 Z (yk Zh jm Z Z)<|zOn 6 Z<|zt (rows := [[_, _, _, _]]) ps52_1 Z Z Z Z Z<|z6<|zOn 7 Z<|yj (k := 4) jh type61 Z Z Z Z Z (fun _ => .t1) (zipf_len (n := 4) (fun _ _ => Z) hkn) (by decide) Z (by show (_ + _) * 48 ≤ _; simp <;> omega) (by simp <;> omega)<|fun i88 => z6<|AAny.takeK (i := 8) Z (by kernel_rfl) (by kernel_rfl) (by kernel_rfl) (by kernel_rfl) (yd Z)<|zTk 9 Z (zl j7 Z jv (by decide) Z Z)<|yp<|yx (i := 10) Z (by kernel_rfl) (by kernel_rfl)<|AOps.storeGN (new := P ++ (([.str b.name, .fro 3 (List.zipWith phW phn b.phis), .own i88 ((inK r (b.insts.take k)).length + 1), .int .i64 b.term.kind, .int .i64 b.term.var, .int .i64 b.term.to0, .int .i64 b.term.to1] : List AV) ++ S)) jv Z Z Z Z Z .head (show i * 7 + 2 < _ from Nat.lt_of_lt_of_eq (m := f.blocks.length * 7) (by omega) (hcl _).symm) (set_at hPl 2 _)<|z6<|yu (by kernel_rfl)<|zy (GStep.bagIn (X' := List.zipWith argX (kn ++ [a]) (inK r (b.insts.take (k + 1))) ++ (List.zipWith argX (isn.drop (k + 1)) (b.insts.drop (k + 1)) ++ X)) .t6 (by rw [hI1, List.zipWith_append hkn, qf]; exact List.perm_middle.symm) .t6)<|zy (zb (zc .t6))<|zy (zb (zc .t6))<|zy (zb (zc .t6))<|zy (zb (zc .t3))<|zy (zb (zc .t6))<|zy (zb (zc .t6))<|zy (zb (zc .t6))<|zRg<|zVzAd Z Z<|zVzMi Z<|z6 ?_
   exact ⟨(im2, k + 1, i88, kn ++ [a], T2), zR5, zR2, ⟨_, (.refl _), by dsimp only; rw [hI1, z1, qj]; rfl⟩, ⟨hk2, by rw [hI1, qj, qj, hkn]; rfl, hT2⟩, by dsimp only; omega⟩
 ·obtain rfl : k = b.insts.length := by rw [hzl] at ck; omega
  have e1 : List.zipWith argX (isn.drop b.insts.length) (b.insts.drop b.insts.length) ++ X = X := by rw [List.drop_length, List.zipWith_nil_right]; rfl
  rw [qi] at hkn
  rw [qi, e1]
  refine zy (GStep.know (t := 6) (rows := (mineL r b.insts).map k4) Z .head (by first | (intro r hr; obtain ⟨x, _, rfl⟩ := List.mem_map.1 hr; rfl) | simp [encI, encVar, encPhi, encInst, encBlk]) (by decide) (by simp))<|zw<|za<|zSr<|z8 (zMp Z)<|z8 (yd Z)<|z8 (zl j7 Z jy (by decide) Z Z)<|z8 (zl jc Z Zg (by decide) Z Z)<|z8 (Gv.load1G (c := _) Zl Z ⟨_, .t2⟩ (drop_at hPl 3))<|zVGvneqI Z Z<|z6<|yo (γ := Int) [0, 1, 6] (fun v => []) (fun v => [(ii, .grow 4 61 (List.zipWith inW kn (inK r b.insts)).flatten), (iw, .cells 89 (wkC f ib jr bm)), (ib, .grow 7 58 (P ++ (([.str b.name, .fro 3 (List.zipWith phW phn b.phis), .own ii (inK r b.insts).length, .int .i64 b.term.kind, .int .i64 v, .int .i64 b.term.to0, .int .i64 b.term.to1] : List AV) ++ S))), (jr, .grow 1 3 (cI (rootL f r (Dk V i b.insts.length)))), (0, mapK bm T), (0, bag (List.zipWith argX kn (inK r b.insts) ++ X))]) (fun v => v = (numTm r b.term).var) ?_ (fun _ _ h => h) ?_
  ·refine zr Z (fun ct=>?_) (fun ct=>?_)
   ·have ct : ¬ b.term.kind = 0 := by simpa using ct
    obtain ⟨tv0, tv1⟩ := htv b hbm ct
    have hta : Av f i b.insts.length b.term.var := (hbeh.2.2).resolve_left ct
    refine y8 (fun j => Nat.beq j 15) (by kernel_rfl) Z (zp (.l (.r (.r (.r (.rest _))))))<|zTk 0 Z (zMp Z)<|zTk 1 Z (zMp Z)<|zTk 2 Z (yd Z)<|zTk 3 Z (zl Ze Z j8 (by decide) Z Z)<|zTk 4 Z (zm (c := .own _ _) jg Z ⟨_, .head⟩ Z)<|zTk 5 Z (zMp Z)<|zTk 6 Z (yd Z)<|zTk 7 Z (zl j7 Z jy (by decide) Z Z)<|zTk 8 Z (zl jc Z j5 (by decide) Z Z)<|zTk 9 Z (Gv.load1G (c := _) jd Z ⟨_, .t1⟩ (drop_at hPl 4))<|zTk 10 Z (yn (j := b.term.var.toNat) j4 j5 Z Z (by omega) ⟨_, .t2⟩ ((cI_len _).trans (rootL_len f r _)) (by omega))<|zTk 11 Z (yw (j := b.term.var.toNat) jd Z ⟨_, .t2⟩ (root_at hW hV tv0 tv1 hta))<|AAny.takeK (i := 12) Z (by kernel_rfl) (by kernel_rfl) (by kernel_rfl) (by kernel_rfl) (yd Z)<|AAny.takeK (i := 13) Z (by kernel_rfl) (by kernel_rfl) (by kernel_rfl) (by kernel_rfl) (zl j7 Z jy (by decide) Z Z)<|zTk 14 Z (zl jc Z j5 (by decide) Z Z)<|yp<|yx (i := 15) Z (by kernel_rfl) (by kernel_rfl)<|AOps.storeGN (new := P ++ (([.str b.name, .fro 3 (List.zipWith phW phn b.phis), .own ii (inK r b.insts).length, .int .i64 b.term.kind, .int .i64 (r b.term.var), .int .i64 b.term.to0, .int .i64 b.term.to1] : List AV) ++ S)) j5 Z Z Z Z Z .t1 (show i * 7 + 4 < _ from Nat.lt_of_lt_of_eq (m := f.blocks.length * 7) (by omega) (hcl _).symm) (set_at hPl 4 _)<|zd (zb (zc .t5))<|zd (zb (zc .t5))<|zd (zb (zc .t4))<|zd (zb (zc .t4))<|zd (zb (zc .t4))<|zd (zb (zc .t5))<|z6<|yu (by kernel_rfl) ?_
    exact ⟨_, zR3, trivial, zLe, by unfold numTm; dsimp only; rw [if_neg ct]⟩
   ·have ct : b.term.kind = 0 := by simpa using ct
    refine ze ?_
    exact ⟨_, zR3, trivial, zLe, by unfold numTm; dsimp only; rw [if_pos ct]⟩
  ·rintro v hv
   subst hv
   rw [root_last hW V hb]
   refine zy (GStep.knowG (j := ib) (off := i * 7 + 2) (rows := List.zipWith inW kn (inK r b.insts)) .head .t1 (get_at hPl 2) (set_at hPl 2 _) (zipr_len (n := 4) fun _ _ => Z) (by decide) (by rw [List.length_zipWith, hkn, Nat.min_self])) ?_
   obtain ⟨n1, hn1⟩ : ∃ n1, A ++ (halfB r b, phn, kn) :: D = n1 := ⟨_, rfl⟩
   have hc1 : n1.flatMap nbC = P ++ (([.str b.name, .fro 3 (List.zipWith phW phn b.phis), .fro 4 (List.zipWith inW kn (inK r b.insts)), .int .i64 b.term.kind, .int .i64 (numTm r b.term).var, .int .i64 b.term.to0, .int .i64 b.term.to1] : List AV) ++ S) := by
    rw [← hn1, List.flatMap_append, List.flatMap_cons, hP, hS]; rfl
   have hp1 : X.Perm X := .refl _
   have hbag1 : (List.zipWith argX kn (inK r b.insts) ++ X).Perm (n1.flatMap nbO) := by
    rw [← hn1, ← hX]; exact (bag_split A D (halfB r b) phn kn).symm
   have hns1 : n1.map (·.1) = blksV f r (visK f V i []) := by
    rw [← blksV_set (V := V) (W := visK f V i []) hb (by unfold visK; simp) (fun j hj => by unfold visK; simp; omega), ← hns, ← hn1, qn, qn, List.map_cons, List.map_cons]
    have := set_at (P := A.map (·.1)) (R := b :: D.map (·.1)) (n := i) (by rw [qk]; exact hAl) 0 (halfB r b)
    exact this.symm
   have hok1 : ∀ q ∈ n1, okNB q := fun q hq => by
    rw [← hn1] at hq
    rcases List.mem_append.1 hq with h | h
    ·exact hok q (List.mem_append_left _ h)
    ·rcases List.mem_cons.1 h with rfl | h
     ·exact ⟨hok1, hkn⟩
     ·exact hok q (List.mem_append_right _ (.tail _ h))
   have hv0 : (fun m : Plc => V m.1 || decide (m.1 = (i : Int))) = fun m => visK f V i [] m.1 := by funext m; unfold visK; simp
   rw [hv0]
   refine zy (GStep.bagPerm (X' := n1.flatMap nbO) (hbag1) .t4)<|zy (GStep.eq (show _ = (nsO f iw ib jr bm n1 (rootL f r fun m => visK f V i [] m.1) T : OL) from by unfold nsO; rw [hc1]; rfl)) ?_
   obtain ⟨kl, hkl⟩ : ∃ kl, kidsOf (EndsOf f) f.blocks.length i = kl := ⟨_, rfl⟩
   have hkn2 : kl.Nodup := hkl ▸ kids_nodup (i : Int)
   have hkm : ∀ c ∈ kl, c ∈ kidsOf (EndsOf f) f.blocks.length i := fun c hc => by rw [hkl]; exact hc
   have hkll : kl.length ≤ 1000 := by
    rw [← hkl]; unfold kidsOf
    exact Nat.le_trans (List.length_filter_le _ _) (by rw [intsTo_len]; exact hf3)
   have hkids := Kids_spec (E := E) f hE hf3 hi ho .any
   rw [hkl] at hkids
   refine za<|zSr<|z8 (zMp Z)<|z8 (yd Z)<|z8 (zl Ze Z sizeOf83 (by decide) Z Z)<|z8 (zm (c := .pf _) isAgg83 Z ⟨_, .head⟩ Z)<|zVzMi Z<|zk (hkids) Z<|zVGvlenM j4 Z<|zVzMi Z<|z6<|zg<|zx (γ := Nat × List NBk × List (K4 × Int)) [0, 6, 118, 119] (fun g => [(120, .int .i64 g.1)]) (fun g => nsO f iw ib jr bm g.2.1 (rootL f r fun m => visK f V i (kl.take g.1) m.1) g.2.2) (fun g => g.1 ≤ kl.length ∧ g.2.1.map (·.1) = blksV f r (visK f V i (kl.take g.1)) ∧ (∀ q ∈ g.2.1, okNB q) ∧ TAt f r i b.insts.length g.2.2) (fun g => kl.length - g.1) (0, n1, T) zR1 zLe (⟨qg _, hns1, hok1, hTk⟩) ?_
   rintro ⟨q, n2, T2⟩ ⟨hq, hn2, hok2', hT2⟩
   try dsimp only at *
   refine zSr<|zVGvlss Z Z<|z6<|za<|zq Z (fun cq=>?_) (fun cq=>?_)
   ·have hq2 : q < kl.length := by omega
    have hcm := hkm _ (qh hq2)
    obtain ⟨⟨c0, c1⟩, _⟩ := (mem_kids hG hall (by omega)).1 hcm
    obtain ⟨cn, hcn⟩ : ∃ cn : Nat, kl[q] = (cn : Int) := ⟨kl[q].toNat, by omega⟩
    have hcl2 : cn < f.blocks.length := by omega
    obtain ⟨hk1, hk2, hk3, hk4⟩ := kid_dom hG hall (by omega) hcm
    obtain ⟨hk5, hk6⟩ := kid_not hG hall (by omega) hcm
    have hVc := vis_kid hG hall (by omega) hV hq2 hkm hkn2
    rw [hcn] at hk1 hk4 hk5 hk6 hVc
    have hTc := told_down hb (c := cn) (by omega) (fun j hj => by rw [hk1 j]; exact ⟨fun h => .inr (h.resolve_left (by omega)), fun h => .inr (h.elim (fun h => by rw [h]; exact .refl (hA i hi)) _root_.id)⟩) hT2 hk5
    have hvn : (fun m : Plc => visK f V i (kl.take q) m.1 || domB (EndsOf f) f.blocks.length cn m.1) = fun m => visK f V i (kl.take (q + 1)) m.1 := by funext m; rw [← hcn]; exact vis_next hq2 m.1
    have hvn2 : (fun j : Int => visK f V i (kl.take q) j || domB (EndsOf f) f.blocks.length cn j) = visK f V i (kl.take (q + 1)) := by funext j; rw [← hcn]; exact vis_next hq2 j
    refine ze<|za<|zg<|zSr<|z8 (zIM q j4 j5 Z Z Z (by rw [qd hq2, hcn])) ?_
    refine zVzLi jd Z<|zVzAi Z<|z6<|zRg<|z8 (zMp Z)<|zVzMi Z<|y4 Z (zp (.l (.l (.l (.l (.l (.rest _))))))) (ih cn f.blocks[cn] (visK f V i (kl.take q)) ib n2 T2 (qd hcl2) (by omega) hVc hn2 hok2' hTc) ?_
    rintro r126 O126 ⟨⟨n3, T3⟩, rfl, rfl, h1, h2, h3⟩
    refine z6<|zRg<|zVzAd Z Z<|zVzMi Z<|z6 ?_
    exact ⟨(q + 1, n3, T3), zR4, zR1, ⟨_, (.refl _), by dsimp only; rw [hvn, List.append_nil]⟩, ⟨hq2, by rw [h1, hvn2], h2, hT2.congr h3.nodup fun key => h3.uniq hTc key⟩, by dsimp only; omega⟩
   ·obtain rfl : q = kl.length := by omega
    rw [qi] at hn2
    rw [qi]
    have hmn : (mineL r b.insts).length ≤ 1000 := Nat.le_trans (by unfold mineL; rw [qk]; exact List.length_filter_le _ _) hb2
    refine zw<|zSr<|zVzMf Z<|zVGvlenM underlying161 Z<|zVzMi Z<|z6<|zg<|zx (γ := Nat) [0, 128, 129] (fun g => [(130, .int .i64 g)]) (fun g => nsO f iw ib jr bm n2 (rootL f r fun m => visK f V i kl m.1) (dels T2 ((mineL r b.insts).take g))) (fun g => g ≤ (mineL r b.insts).length) (fun g => (mineL r b.insts).length - g) 0 zR1 zLe (qg _) ?_
    rintro q hq
    refine zSr<|zVGvlss Z Z<|z6<|za<|zq Z (fun cq=>?_) (fun cq=>?_)
    ·have hq2 : q < (mineL r b.insts).length := by omega
     refine ze<|za<|zg<|zSr<|z8 (ym underlying161 Zb Z Z Z (qd (by omega)))<|zVGvloadWF Y0 Zb Z Z<|zz (cs := [.int .i64 0, .int .i64 0, .int .i64 0, .int .i64 0]) Y3 Z Z<|fun i15 => zu Zb Z Z Z Z Z Z .head Z<|zd (ye (t := 15) Z .head)<|z6<|y8 (fun j => false) (by kernel_rfl) Z (zp (.r (.rest _)))<|zTk 0 Z (zMp Z)<|zTk 1 Z (yd Z)<|zTk 2 Z (zl Ze Z sizeOf87 (by decide) Z Z)<|zTk 3 Z (zm (c := mref _) isAgg87 Z ⟨_, .head⟩ Z)<|zTk 4 Z (yk Y0 Zb Z Z)<|zOn 5 Z<|AOps.mapDelK key4_ok underlying87 Z Z .t2<|z6<|zDn<|zy (zb (zc .t4))<|zy (zb (zc .t4))<|zy (zb (zc .t4))<|zy (zb (zc .t4))<|zy (zb (zc .t4))<|zRg<|zVzAd Z Z<|zVzMi Z<|z6 ?_
     exact ⟨q + 1, zR3, zR1, ⟨_, (.refl _), by rw [show dels T2 ((mineL r b.insts).take (q + 1)) = kdel (dels T2 ((mineL r b.insts).take q)) (mineL r b.insts)[q] by unfold dels; rw [qe hq2, List.foldl_append]; rfl]; rfl⟩, hq2, by omega⟩
    ·obtain rfl : q = (mineL r b.insts).length := by omega
     rw [qi]
     have hva : ∀ j : Int, 0 ≤ j → j < f.blocks.length → visK f V i kl j = (V j || domB (EndsOf f) f.blocks.length i j) := fun j h0 h1 => by rw [← hkl]; exact vis_all hG hall (by omega) h0 h1
     have hre : rootL f r (fun m => visK f V i kl m.1) = rootL f r fun m => V m.1 || domB (EndsOf f) f.blocks.length i m.1 := root_eq hW fun j q y hy _ => hva j (by omega) (by have := (List.getElem?_eq_some_iff.1 hy.1.choose_spec.1).1; omega)
     refine zw<|afin.t0 ?_
     exact ⟨(n2, dels T2 (mineL r b.insts)), rfl, ⟨_, .refl _, by rw [hre]; rfl⟩, by rw [hn2]; exact blksV_congr fun j hj => hva j (by omega) (by omega), hok2', told_back hW.hr hW.hK hb hT2⟩
theorem block_all {r : Int → Int} {rk : Nat → Nat → Nat} (f : PFunc) (hN : NumA f r rk) (iw jr bm : Nat) : ∀ m, BlkS E f r iw jr bm m
 | 0 => block_zero f r hN.hE hN.hA iw jr bm
 | m + 1 => block_step f hN iw jr bm m (block_all f hN iw jr bm m)
end Go.Proofs.YtiojekbkamegdaaGreatDoor
