/- The one form is typed, joined and little. Of typed and joined programs. -/
import Derived.Test.YtbkgklpihnfnjaaGreatDoorJk
import Derived.Test.YtbkgklpihnfnjaaGreatDoorJh
import Derived.Test.YtbkgklpihnfnjaaGreatDoorJj
import Derived.Test.YtbkgklpihnfnjaaGreatDoorJi
import Derived.Shelf.SlSortCmp.NoneTotal
import Derived.Test.YtbkgklpihnfnjaaGreatDoorJe
set_option linter.unusedVariables false
set_option linter.unusedSimpArgs false
set_option linter.unusedSectionVars false
namespace Go.Proofs.YtbkgklpihnfnjaaGreatDoor
open Go.Proofs.Tryz
open Go.Proofs Go.Lib Go.Shelf Go.RowKit
set_option maxRecDepth 20000
variable {E : World}
theorem sum_take {α : Type} (g : α → Nat) : ∀ (l : List α) (k : Nat), ((l.take k).map g).sum ≤ (l.map g).sum
 | [], k => by simp
 | x :: l, 0 => by simp
 | x :: l, k + 1 => by
  have := sum_take g l k
  simp only [List.take_succ_cons, List.map_cons, List.sum_cons]; omega
theorem wP_take (l : List PPhi) (k : Nat) : wP (l.take k) ≤ wP l := sum_take _ l k
theorem wX_take (l : List PInst) (k : Nat) : wX (l.take k) ≤ wX l := sum_take _ l k
theorem little_le {f : PFunc} (h : little f) {k : Nat} (hk : k < f.blocks.length) : wV f.vars + wBs (f.blocks.take k) + wB f.blocks[k] ≤ 4000 := by
 have h1 := h.2.2.2.2.2 (fun e => by rw [e] at hk; exact absurd hk (Nat.not_lt_zero _))
 have h2 : wBs (f.blocks.take (k + 1)) ≤ wBs f.blocks := sum_take _ f.blocks (k + 1)
 rw [wBs_succ hk] at h2
 omega
set_option maxHeartbeats 8000000 in
theorem fewIff_spec (f : PFunc) (hf : wFunc f) : ACall prog E 27 [.agg (encF f)] [] (fun x _ => ∃ b : Bool, x = .bool b ∧ (b = true ↔ little f)) := by
 obtain ⟨hf1, hf2, hf3, hf4⟩ := hf
 have hl1 := hf1.lt
 have hl3 := hf3.lt
 refine zk func27 Z (by decide) Z<|zSr<|y6 (cs := _) Z Z Z<|zVzAb Z<|z6<|zb<|zb<|yn (γ := Unit) [1] (fun u => [(27, .bool (few1 f))]) (fun u => []) (fun u => True) ?_ (fun _ _ h => h) ?_
 ·refine zRg<|zVzFF jc Z Z9 Z Z<|zVzLf Zn Z<|zVGvlenM js Z<|z8 (yr Z Z)<|zVzMb Z<|zo (s := 16) Z (fun c1=>?_) (fun c1=>?_)
  ·refine z7 Z Z c1<|z7 Z Z c1<|z7 Z Z c1<|z7 Z Z c1<|zVzPt Z c1 Z<|zVzMb Z<|z7 Z Z Z<|z7 Z Z Z<|z7 Z Z Z<|z7 Z Z Z<|zVzPt Z Z Z<|z6 ?_
   exact ⟨(), zR1, ⟨jb (by simp_all [few1] <;> grind), trivial⟩, zLe, trivial⟩
  ·refine za Z Z c1<|zVzFF jc Z Z2 Z Z<|za Z Z c1<|zVzLf Ze Z<|za Z Z c1<|zVGvlenM jo Z<|za Z Z c1<|z8 (yr Z Z)<|zVzPf Z c1 Z<|zVzMb Z<|zo (s := 22) Z (fun c2=>?_) (fun c2=>?_)
   ·refine z7 Z Z c2<|z7 Z Z c2<|z7 Z Z c2<|z7 Z Z c2<|zVzPt Z c2 Z<|z6 ?_
    exact ⟨(), zR1, ⟨jb (by simp_all [few1] <;> grind), trivial⟩, zLe, trivial⟩
   ·refine za Z Z c2<|zVzFF jc Z jn Z Z<|za Z Z c2<|zVzLf jz Z<|za Z Z c2<|zVGvlenM j9 Z<|za Z Z c2<|z8 (yr Z Z)<|zVzPf Z c2 Z<|z6 ?_
    exact ⟨(), zR1, ⟨jb (by simp_all [few1] <;> grind), trivial⟩, zLe, trivial⟩
 ·rintro _ _
  refine zz Z (fun c1=>?_) (fun c1=>?_)
  ·refine zSr<|zVzAb Z<|z6<|ze<|zi (x := .bool _) Z ?_
   exact ⟨_, rfl, fun h => (by cases h), fun hl => absurd hl (fun hl => by have h1 := hl.1; have h2 := hl.2.1; have h3 := hl.2.2.1; unfold few1 at c1; simp at c1; omega)⟩
  ·have hsz : f.vars.length ≤ 100 ∧ f.blocks.length ≤ 40 ∧ f.params.length ≤ 20 := by unfold few1 at c1; simp at c1; omega
   refine zf<|zSr<|zVzAi Z<|z6<|zb<|zSr<|zVzFF jc Z Z9 Z Z<|zVzLf Zn Z<|zVGvlenM js Z<|zVzMi Z<|z6<|zg<|y3 (γ := Nat) [1, 29, 30] (fun k => [(31, .int .i64 k), (3, .int .i64 (wV (f.vars.take k)))]) (fun k => []) (fun k => k ≤ f.vars.length ∧ wV (f.vars.take k) ≤ 400 * k ∧ ∀ v ∈ f.vars.take k, v.name.size ≤ 400) (fun k => f.vars.length - k) 0 zR2 zLe (⟨qg _, Nat.le_refl _, by simp⟩) ?_
   rintro k ⟨hk, hw, hv⟩
   refine zSr<|zVGvlss Z Z<|z6<|zb<|zr Z (fun ck=>?_) (fun ck=>?_)
   ·have hk1 : k < f.vars.length := by omega
    have hs := wV_succ hk1
    refine zf<|zb<|zg<|zSr<|z8 (yi js Zd Z Z Z (qd (by omega)))<|zVGvloadWF Xg Zd Z Z<|zq (cs := [.str ⟨#[]⟩, .int .i64 0]) Yz Z Z<|fun i5 => zm Zd Z Z Z Z Z Z .head Z<|z6<|zb<|zSr<|z8 (zc Zf Z jx (by decide) Z Z)<|z8 (zj (c := .str _) Z5 Z ⟨_, .head⟩ Z)<|z8 (Gv.lenT Z3 Z)<|z8 (yr Z Z)<|z6<|zr Z (fun cn=>?_) (fun cn=>?_)
    ·refine zSr<|zVzAb Z<|z6<|ze<|zi (x := .bool _) Z ?_
     exact ⟨_, rfl, fun h => (by cases h), fun hl => absurd hl (fun hl => by have h1 := hl.2.2.2.1 _ (qh hk1); omega)⟩
    ·refine zf<|zRg<|zVzMi Z<|z8 (zc Zf Z jx (by decide) Z Z)<|z8 (zj (c := .str _) Z5 Z ⟨_, .head⟩ Z)<|z8 (Gv.lenT Z3 Z)<|zVzAd Z Z<|zVzAi Z<|z6<|zRg<|zVzAd Z Z<|zVzMi Z<|z6 ?_
     exact ⟨k + 1, zR3, ⟨rfl, congrArg (AV.int .i64) (by rw [hs]; omega), trivial⟩, ⟨_, (.drop (.refl _)), rfl⟩, ⟨hk1, by omega, forall_take hk1 hv (by omega)⟩, by omega⟩
   ·obtain rfl : k = f.vars.length := by omega
    rw [qi] at hw hv
    rw [qi]
    refine y2<|zb<|zSr<|zVzFF jc Z Z2 Z Z<|zVzLf Ze Z<|zVGvlenM jo Z<|zVzMi Z<|z6<|zg<|y3 (γ := Nat) [46, 47] (fun k => [(48, .int .i64 k), (3, .int .i64 (wV f.vars + wBs (f.blocks.take k) : Nat))]) (fun k => []) (fun k => k ≤ f.blocks.length ∧ (0 < k → wV f.vars + wBs (f.blocks.take k) ≤ 4000) ∧ wBs (f.blocks.take k) ≤ 4000 ∧ ∀ b ∈ f.blocks.take k, littleB b) (fun k => f.blocks.length - k) 0 zR2 zLe (⟨qg _, by omega, by simp [wBs], by simp⟩) ?_
    rintro k ⟨hk, hw2, hw3, hb⟩
    refine zSr<|zVGvlss Z Z<|z6<|zb<|zr Z (fun ck=>?_) (fun ck=>?_)
    ·have hk1 : k < f.blocks.length := by omega
     obtain ⟨hb1, hb2, hb3, hb4⟩ := hf4 _ (qh hk1)
     have hs := wBs_succ hk1
     refine zf<|zb<|zg<|zSr<|z8 (yi jo jt Z Z Z (qd (by omega)))<|zVGvloadWF Zq jt Z Z<|zq (cs := [.str ⟨#[]⟩, .raw (.slice none 0 0), .raw (.slice none 0 0), .int .i64 0, .int .i64 0, .int .i64 0, .int .i64 0]) Zb Z Z<|fun i7 => zm jt Z Z Z Z Z Z .head Z<|z6<|zb<|zb<|yn (γ := Unit) [3, 7, 46, 47, 48] (fun u => [(67, .bool (few2 f.blocks[k]))]) (fun u => [(i7, .cells 49 (encBlk f.blocks[k]))]) (fun u => True) ?_ (fun _ _ h => h) ?_
     ·refine zRg<|z8 (zc ja Z jx (by decide) Z Z)<|z8 (zj (c := .str _) Z5 Z ⟨_, .head⟩ Z)<|z8 (Gv.lenT Z3 Z)<|z8 (yr Z Z)<|zVzMb Z<|zo (s := 56) Z (fun c3=>?_) (fun c3=>?_)
      ·refine z7 Z Z c3<|z7 Z Z c3<|z7 Z Z c3<|z7 Z Z c3<|zVzPt Z c3 Z<|zVzMb Z<|z7 Z Z Z<|z7 Z Z Z<|z7 Z Z Z<|z7 Z Z Z<|zVzPt Z Z Z<|z6 ?_
       exact ⟨(), zR5, ⟨jb (by simp_all [few2] <;> grind), trivial⟩, zLe, trivial⟩
      ·refine za Z Z c3<|z8 (zc ja Z Za (by decide) Z Z)<|za Z Z c3<|z8 (zj (c := .fro _ _) Zu Z ⟨_, .head⟩ Z)<|za Z Z c3<|zVGvlenM jw Z<|za Z Z c3<|z8 (yr Z Z)<|zVzPf Z c3 Z<|zVzMb Z<|zo (s := 62) Z (fun c4=>?_) (fun c4=>?_)
       ·refine z7 Z Z c4<|z7 Z Z c4<|z7 Z Z c4<|z7 Z Z c4<|zVzPt Z c4 Z<|z6 ?_
        exact ⟨(), zR5, ⟨jb (by simp_all [few2] <;> grind), trivial⟩, zLe, trivial⟩
       ·refine za Z Z c4<|z8 (zc ja Z Zi (by decide) Z Z)<|za Z Z c4<|z8 (zj (c := .fro _ _) Y1 Z ⟨_, .head⟩ Z)<|za Z Z c4<|zVGvlenM Z1 Z<|za Z Z c4<|z8 (yr Z Z)<|zVzPf Z c4 Z<|z6 ?_
        exact ⟨(), zR5, ⟨jb (by simp_all [few2] <;> grind), trivial⟩, zLe, trivial⟩
     ·rintro _ _
      refine zz Z (fun c2=>?_) (fun c2=>?_)
      ·refine zSr<|zVzAb Z<|z6<|ze<|zi (x := .bool _) Z ?_
       exact ⟨_, rfl, fun h => (by cases h), fun hl => absurd hl (fun hl => by obtain ⟨h1, h2, h3, _⟩ := hl.2.2.2.2.1 _ (qh hk1); unfold few2 at c2; simp at c2; omega)⟩
      ·have hsb : f.blocks[k].name.size ≤ 400 ∧ f.blocks[k].phis.length ≤ 400 ∧ f.blocks[k].insts.length ≤ 400 := by unfold few2 at c2; simp at c2; omega
       refine zf<|zSr<|zVzMi Z<|z8 (zc ja Z jx (by decide) Z Z)<|z8 (zj (c := .str _) Z5 Z ⟨_, .head⟩ Z)<|z8 (Gv.lenT Z3 Z)<|z8 (zc ja Z Za (by decide) Z Z)<|z8 (zj (c := .fro _ _) Zu Z ⟨_, .head⟩ Z)<|zVGvlenM jw Z<|z8 (zc ja Z Zi (by decide) Z Z)<|z8 (zj (c := .fro _ _) Y1 Z ⟨_, .head⟩ Z)<|zVGvlenM Z1 Z<|zVzAd Z Z<|z8 (Gv.mul Z Z (by unfold I64; omega))<|zVzAd Z Z<|zVzAd Z Z<|zVzAi Z<|z6<|zb<|zSr<|z8 (zc ja Z Za (by decide) Z Z)<|z8 (zj (c := .fro _ _) Zu Z ⟨_, .head⟩ Z)<|zVGvlenM jw Z<|zVzMi Z<|z6<|zg<|y3 (γ := Nat) [7, 46, 47, 48, 83, 84] (fun m => [(85, .int .i64 m), (3, .int .i64 (wV f.vars + wBs (f.blocks.take k) + (f.blocks[k].name.size + 10 * (f.blocks[k].phis.length + f.blocks[k].insts.length)) + wP (f.blocks[k].phis.take m) : Nat))]) (fun m => [(i7, .cells 49 (encBlk f.blocks[k]))]) (fun m => m ≤ f.blocks[k].phis.length ∧ wP (f.blocks[k].phis.take m) ≤ 800 * m ∧ ∀ p ∈ f.blocks[k].phis.take m, p.args.length ≤ 400 ∧ p.from_.length ≤ 400) (fun m => f.blocks[k].phis.length - m) 0 ⟨Z, (congrArg (AV.int .i64) (by simp [wP] <;> omega)), trivial⟩ zLe (⟨qg _, by simp [wP], by simp⟩) ?_
       rintro m ⟨hm, hwp, hp⟩
       refine zSr<|zVGvlss Z Z<|z6<|zb<|zr Z (fun cm=>?_) (fun cm=>?_)
       ·have hm1 : m < f.blocks[k].phis.length := by omega
        obtain ⟨hq1, hq2⟩ := hb3 _ (qh hm1)
        have hl6 := hq1.lt
        have hl7 := hq2.lt
        have hs2 := wP_succ hm1
        refine zf<|zb<|zg<|zSr<|z8 (yi jw Z0 Z Z Z (qd (by omega)))<|zVGvloadWF Zv Z0 Z Z<|zq (cs := [.int .i64 0, .raw (.slice none 0 0), .raw (.slice none 0 0)]) Zk Z Z<|fun i9 => zm Z0 Z Z Z Z Z Z .head Z<|z6<|zb<|zb<|yn (γ := Unit) [3, 7, 9, 46, 47, 48, 83, 84, 85] (fun u => [(102, .bool (decide ((4000 : Int) < (wV f.vars + wBs (f.blocks.take k) + (f.blocks[k].name.size + 10 * (f.blocks[k].phis.length + f.blocks[k].insts.length)) + wP (f.blocks[k].phis.take m) : Nat)) || (decide ((400 : Int) < f.blocks[k].phis[m].args.length) || decide ((400 : Int) < f.blocks[k].phis[m].from_.length))))]) (fun u => [(i9, .cells 60 (encPhi f.blocks[k].phis[m])), (i7, .cells 49 (encBlk f.blocks[k]))]) (fun u => True) ?_ (fun _ _ h => h) ?_
        ·refine zRg<|zVzMi Z<|z8 (yr Z Z)<|zVzMb Z<|zo (s := 91) Z (fun c5=>?_) (fun c5=>?_)
         ·refine z7 Z Z c5<|z7 Z Z c5<|z7 Z Z c5<|z7 Z Z c5<|zVzPt Z c5 Z<|zVzMb Z<|z7 Z Z Z<|z7 Z Z Z<|z7 Z Z Z<|z7 Z Z Z<|zVzPt Z Z Z<|z6 ?_
          exact ⟨(), zR9, ⟨jb (by simp_all <;> grind), trivial⟩, zLe, trivial⟩
         ·refine za Z Z c5<|z8 (zc jm Z jn (by decide) Z Z)<|za Z Z c5<|z8 (zj (c := .fro _ _) jz Z ⟨_, .head⟩ Z)<|za Z Z c5<|zVGvlenM j9 Z<|za Z Z c5<|z8 (yr Z Z)<|zVzPf Z c5 Z<|zVzMb Z<|zo (s := 97) Z (fun c6=>?_) (fun c6=>?_)
          ·refine z7 Z Z c6<|z7 Z Z c6<|z7 Z Z c6<|z7 Z Z c6<|zVzPt Z c6 Z<|z6 ?_
           exact ⟨(), zR9, ⟨jb (by simp_all <;> grind), trivial⟩, zLe, trivial⟩
          ·refine za Z Z c6<|z8 (zc jm Z jn (by decide) Z Z)<|za Z Z c6<|z8 (zj (c := .fro _ _) jz Z ⟨_, .head⟩ Z)<|za Z Z c6<|zVGvlenM j9 Z<|za Z Z c6<|z8 (yr Z Z)<|zVzPf Z c6 Z<|z6 ?_
           exact ⟨(), zR9, ⟨jb (by simp_all <;> grind), trivial⟩, zLe, trivial⟩
        ·rintro _ _
         refine zz Z (fun cp=>?_) (fun cp=>?_)
         ·refine zSr<|zVzAb Z<|z6<|ze<|zi (x := .bool _) Z ?_
          exact ⟨_, rfl, fun h => (by cases h), fun hl => absurd hl (fun hl => by obtain ⟨_, _, _, h4, _⟩ := hl.2.2.2.2.1 _ (qh hk1); have h5 := h4 _ (qh hm1); have h9 := little_le hl hk1; have hwb : wB f.blocks[k] = f.blocks[k].name.size + 10 * (f.blocks[k].phis.length + f.blocks[k].insts.length) + wP f.blocks[k].phis + wX f.blocks[k].insts := rfl; have h10 := wP_take f.blocks[k].phis m; simp only [Bool.or_eq_true, qu] at cp; omega)⟩
         ·rcases Bool.or_eq_false_iff.1 cp with ⟨a1, a2⟩
          rcases Bool.or_eq_false_iff.1 a2 with ⟨a3, a4⟩
          have a3 := of_decide_eq_false a3
          have a4 := of_decide_eq_false a4
          refine zf<|zRg<|zVzMi Z<|z8 (zc jm Z jn (by decide) Z Z)<|z8 (zj (c := .fro _ _) jz Z ⟨_, .head⟩ Z)<|zVGvlenM j9 Z<|z8 (zc jm Z jn (by decide) Z Z)<|z8 (zj (c := .fro _ _) jz Z ⟨_, .head⟩ Z)<|zVGvlenM j9 Z<|zVzAd Z Z<|zVzAd Z Z<|zVzAi Z<|z6<|zRg<|zVzAd Z Z<|zVzMi Z<|z6 ?_
          exact ⟨m + 1, zR6, ⟨rfl, congrArg (AV.int .i64) (by rw [hs2]; omega), trivial⟩, ⟨_, (.drop (.refl _)), rfl⟩, ⟨hm1, by omega, forall_take hm1 hp ⟨by omega, by omega⟩⟩, by omega⟩
       ·obtain rfl : m = f.blocks[k].phis.length := by omega
        rw [qi] at hwp hp
        rw [qi]
        refine y2<|zb<|zSr<|z8 (zc ja Z Zi (by decide) Z Z)<|z8 (zj (c := .fro _ _) Y1 Z ⟨_, .head⟩ Z)<|zVGvlenM Z1 Z<|zVzMi Z<|z6<|zg<|y3 (γ := Nat) [46, 47, 48, 114, 115] (fun m => [(116, .int .i64 m), (3, .int .i64 (wV f.vars + wBs (f.blocks.take k) + (f.blocks[k].name.size + 10 * (f.blocks[k].phis.length + f.blocks[k].insts.length)) + wP f.blocks[k].phis + wX (f.blocks[k].insts.take m) : Nat))]) (fun m => [(i7, .cells 49 (encBlk f.blocks[k]))]) (fun m => m ≤ f.blocks[k].insts.length ∧ wX (f.blocks[k].insts.take m) ≤ 400 * m ∧ ∀ p ∈ f.blocks[k].insts.take m, p.args.length ≤ 400) (fun m => f.blocks[k].insts.length - m) 0 ⟨Z, (congrArg (AV.int .i64) (by simp [wX] <;> omega)), trivial⟩ zLe (⟨qg _, by simp [wX], by simp⟩) ?_
        rintro m ⟨hm, hwx, hx⟩
        refine zSr<|zVGvlss Z Z<|z6<|zb<|zr Z (fun cm=>?_) (fun cm=>?_)
        ·have hm1 : m < f.blocks[k].insts.length := by omega
         have hq1 := hb4 _ (qh hm1)
         have hl6 := hq1.lt
         have hs2 := wX_succ hm1
         refine zf<|zb<|zg<|zSr<|z8 (yi Z1 Z7 Z Z Z (qd (by omega)))<|zVGvloadWF Y3 Z7 Z Z<|zq (cs := [.int .i64 0, .int .i64 0, .raw (.slice none 0 0), .int .i64 0]) Zt Z Z<|fun i11 => zm Z7 Z Z Z Z Z Z .head Z<|z6<|zb<|zb<|yn (γ := Unit) [3, 11, 46, 47, 48, 114, 115, 116] (fun u => [(127, .bool (decide ((4000 : Int) < (wV f.vars + wBs (f.blocks.take k) + (f.blocks[k].name.size + 10 * (f.blocks[k].phis.length + f.blocks[k].insts.length)) + wP f.blocks[k].phis + wX (f.blocks[k].insts.take m) : Nat)) || decide ((400 : Int) < f.blocks[k].insts[m].args.length)))]) (fun u => [(i11, .cells 41 (encInst f.blocks[k].insts[m])), (i7, .cells 49 (encBlk f.blocks[k]))]) (fun u => True) ?_ (fun _ _ h => h) ?_
         ·refine zRg<|zVzMi Z<|z8 (yr Z Z)<|zVzMb Z<|zo (s := 122) Z (fun c7=>?_) (fun c7=>?_)
          ·refine z7 Z Z c7<|z7 Z Z c7<|z7 Z Z c7<|z7 Z Z c7<|zVzPt Z c7 Z<|z6 ?_
           exact ⟨(), zR8, ⟨jb (by simp_all <;> grind), trivial⟩, zLe, trivial⟩
          ·refine za Z Z c7<|z8 (zc jk Z jn (by decide) Z Z)<|za Z Z c7<|z8 (zj (c := .fro _ _) jz Z ⟨_, .head⟩ Z)<|za Z Z c7<|zVGvlenM j9 Z<|za Z Z c7<|z8 (yr Z Z)<|zVzPf Z c7 Z<|z6 ?_
           exact ⟨(), zR8, ⟨jb (by simp_all <;> grind), trivial⟩, zLe, trivial⟩
         ·rintro _ _
          refine zz Z (fun cp=>?_) (fun cp=>?_)
          ·refine zSr<|zVzAb Z<|z6<|ze<|zi (x := .bool _) Z ?_
           exact ⟨_, rfl, fun h => (by cases h), fun hl => absurd hl (fun hl => by obtain ⟨_, _, _, _, h4⟩ := hl.2.2.2.2.1 _ (qh hk1); have h5 := h4 _ (qh hm1); have h9 := little_le hl hk1; have hwb : wB f.blocks[k] = f.blocks[k].name.size + 10 * (f.blocks[k].phis.length + f.blocks[k].insts.length) + wP f.blocks[k].phis + wX f.blocks[k].insts := rfl; have h10 := wX_take f.blocks[k].insts m; simp only [Bool.or_eq_true, qu] at cp; omega)⟩
          ·rcases Bool.or_eq_false_iff.1 cp with ⟨a1, a2⟩
           have a2 := of_decide_eq_false a2
           refine zf<|zRg<|zVzMi Z<|z8 (zc jk Z jn (by decide) Z Z)<|z8 (zj (c := .fro _ _) jz Z ⟨_, .head⟩ Z)<|zVGvlenM j9 Z<|zVzAd Z Z<|zVzAi Z<|z6<|zRg<|zVzAd Z Z<|zVzMi Z<|z6 ?_
           exact ⟨m + 1, zR5, ⟨rfl, congrArg (AV.int .i64) (by rw [hs2]; omega), trivial⟩, ⟨_, (.drop (.refl _)), rfl⟩, ⟨hm1, by omega, forall_take hm1 hx (by omega)⟩, by omega⟩
        ·obtain rfl : m = f.blocks[k].insts.length := by omega
         rw [qi] at hwx hx
         rw [qi]
         refine y2<|zSr<|zVzMi Z<|z8 (yr Z Z)<|z6<|zr Z (fun cz=>?_) (fun cz=>?_)
         ·refine zSr<|zVzAb Z<|z6<|ze<|zi (x := .bool _) Z ?_
          exact ⟨_, rfl, fun h => (by cases h), fun hl => absurd hl (fun hl => by have h9 := little_le hl hk1; have hwb : wB f.blocks[k] = f.blocks[k].name.size + 10 * (f.blocks[k].phis.length + f.blocks[k].insts.length) + wP f.blocks[k].phis + wX f.blocks[k].insts := rfl; omega)⟩
         ·have hwb : wB f.blocks[k] = f.blocks[k].name.size + 10 * (f.blocks[k].phis.length + f.blocks[k].insts.length) + wP f.blocks[k].phis + wX f.blocks[k].insts := rfl
          refine zf<|zRg<|zVzAd Z Z<|zVzMi Z<|z6 ?_
          exact ⟨k + 1, zR2, ⟨rfl, congrArg (AV.int .i64) (by rw [hs]; omega), trivial⟩, ⟨_, (.drop (.refl _)), rfl⟩, ⟨hk1, by omega, by omega, forall_take hk1 hb ⟨hsb.1, hsb.2.1, hsb.2.2, hp, hx⟩⟩, by omega⟩
    ·obtain rfl : k = f.blocks.length := by omega
     rw [qi] at hw2 hw3 hb
     refine y2<|zSr<|zVzAb Z<|z6<|ze<|zi (x := .bool _) Z ?_
     exact ⟨_, rfl, fun _ => ⟨hsz.1, hsz.2.1, hsz.2.2, hv, hb, fun hne => hw2 (List.length_pos_iff.2 hne)⟩, fun _ => rfl⟩
theorem lawShaped2_spec (f : PFunc) (hf : okFunc f) (hn : okNames f) (hL : Letters E) : AFun prog E 63 [.agg (encF f)] (.bool (decide (ShapedP f))) := by
 refine zk func63 Z (by decide) Z<|zSr<|y6 (cs := _) Z Z Z<|zVzAb Z<|z6<|zSr<|zVGvloadWF ju jj Z Z<|zd (refShaped_spec _ (by assumption) (by assumption) hL) Z<|zVzAb Z<|z6<|ze<|zi (x := .bool _) Z ?_
 rfl
noncomputable def fewB (f : PFunc) : Bool := @decide (little f) (Classical.propDecidable _)
theorem fewB_iff (f : PFunc) : fewB f = true ↔ little f := by unfold fewB; exact @decide_eq_true_iff _ (Classical.propDecidable _)
theorem fewT_spec (f : PFunc) (hf : wFunc f) : AFun prog E 27 [.agg (encF f)] (.bool (fewB f)) :=
 (fewIff_spec f hf).mono fun x O' ⟨b, e, h⟩ => by
  rw [e]
  congr 1
  rw [Bool.eq_iff_iff, h, fewB_iff]
theorem lawTyped8_spec (f : PFunc) (hf : small f) (hL : Letters E) : AFun prog E 28 [.agg (encF f)] (.bool (typedB f)) := by
 have hs := lawShaped2_spec (E := E) f hf.ok hf.names hL
 refine zk func28 Z (by decide) Z<|zSr<|y6 (cs := _) Z Z Z<|zVzAb Z<|z6<|zSr<|zVGvloadWF ju jj Z Z<|zd (hs) Z ?_
 by_cases g4 : ShapedP f
 ·refine zVzMb Z<|za Z Z (qq g4)<|zVGvloadWF ju jj Z Z<|za Z Z (qq g4)<|zd (refTyped_spec f hf g4) Z<|z8 (zPt Z (qq g4) Z)<|zVzAb Z<|z6<|ze<|zi (x := .bool _) Z ?_
  exact jb (by unfold typedB; rw [shapedB_eq, qq g4]; rfl)
 ·refine zVzMb Z<|z7 Z Z (qr g4)<|z7 Z Z (qr g4)<|z8 (zPf Z (qr g4) Z)<|zVzAb Z<|z6<|ze<|zi (x := .bool _) Z ?_
  exact jb (by unfold typedB; rw [shapedB_eq, qr g4]; rfl)
theorem lawTyped_spec (f : PFunc) (hw : wFunc f) (hL : Letters E) : AFun prog E 11 [.agg (encF f)] (.bool (fewB f && typedB f)) := by
 refine zk func11 Z (by decide) Z<|zSr<|y6 (cs := _) Z Z Z<|zVzAb Z<|z6<|zSr<|zVGvloadWF ju jj Z Z<|zd (fewT_spec f hw) Z<|zVzMb Z<|zo (s := 5) Z (fun g=>?_) (fun g=>?_)
 ·refine za Z Z g<|zVGvloadWF ju jj Z Z<|za Z Z g<|zd (lawTyped8_spec f ((fewB_iff f).1 g).small hL) Z<|zVzPt Z g Z<|zVzAb Z<|z6<|ze<|zi (x := .bool _) Z ?_
  exact jb (by rw [g]; rfl)
 ·refine z7 Z Z g<|z7 Z Z g<|zVzPf Z g Z<|zVzAb Z<|z6<|ze<|zi (x := .bool _) Z ?_
  exact jb (by rw [g]; rfl)
end Go.Proofs.YtbkgklpihnfnjaaGreatDoor
namespace Go.Proofs.YtbkgklpihnfnjaaGreatDoor
open Go.Proofs.Tryz
end Go.Proofs.YtbkgklpihnfnjaaGreatDoor
namespace Go.Proofs.YtbkgklpihnfnjaaGreatDoor
open Go.Proofs.Tryz
open Go.Proofs Go.Lib Go.Shelf Go.RowKit
variable {E : World}
set_option maxRecDepth 20000
theorem indexZ_spec (xs : List Int) (v : Int) (hl : xs.length ≤ 281474976710656) : AFun prog E 113 [.fro 1 (xs.map encI), .int .i64 v] (.int .i64 (firstI (fun x => decide (v = x)) xs 0)) := by
 refine zk func113 Z (by decide) Z<|zSr<|zVzAi Z<|z6<|zb<|zSr<|zVzMf Z<|zVGvlenM j9 Z<|zVzMi Z<|z6<|zg<|y3 (γ := Nat) [0, 1, 7] (fun k => [(8, .int .i64 k)]) (fun k => []) (fun k => k ≤ xs.length ∧ (xs.take k).all (fun x => !decide (v = x))) (fun k => xs.length - k) 0 zR1 zLe (⟨qg _, Z⟩) ?_
 rintro k ⟨hk, hall⟩
 refine zSr<|zVGvlss Z Z<|z6<|zb<|zr Z (fun ck=>?_) (fun ck=>?_)
 ·have hk2 : k < xs.length := by simp at ck; omega
  refine zf<|zb<|zg<|zSr<|zVzMi Z<|zVzAi Z<|z6<|zSr<|zVzMi Z<|zVzMf Z<|zVzMi Z<|z8 (zIM k j9 jd Z Z Z (qd hk2))<|zVzLi jr Z<|zVGveqlI Z Z<|z6<|zz Z (fun cp=>?_) (fun cp=>?_)
  ·refine zSr<|zVzMi Z<|zVzAi Z<|z6<|ze<|zi (x := .int _ _) Z ?_
   rw [firstI_drop _ xs k hk hall, List.drop_eq_getElem_cons hk2, firstI, if_pos (by simpa using cp)]
  ·refine zf<|zRg<|zVzAd Z Z<|zVzMi Z<|z6 ?_
   exact ⟨k + 1, zR3, zR1, zLe, ⟨hk2, by rw [qe hk2, List.all_append, hall]; simpa using cp⟩, by omega⟩
 ·have hkn : k = xs.length := by simp at ck; omega
  refine y2<|zSr<|zVzAi Z<|z6<|ze<|zi (x := .int _ _) Z ?_
  rw [firstI_drop _ xs k hk hall, hkn, List.drop_length, firstI]
theorem containsZ_spec (xs : List Int) (v : Int) (hl : xs.length ≤ 281474976710656) : AFun prog E 69 [.fro 1 (xs.map encI), .int .i64 v] (.bool (xs.contains v)) := by
 refine zk func69 Z (by decide) Z<|zSr<|zVzAb Z<|z6<|zSr<|zVzMf Z<|zVzMi Z<|zd (indexZ_spec xs v hl) Z<|z8 (qc Z Z)<|zVzAb Z<|z6<|ze<|zi (x := .bool _) Z ?_
 rw [firstI_ge]; congr 1; rw [Bool.eq_iff_iff]; simp
end Go.Proofs.YtbkgklpihnfnjaaGreatDoor
namespace Go.Proofs.YtbkgklpihnfnjaaGreatDoor
open Go.Proofs.Tryz
open Go.Proofs Go.Lib Go.Shelf Go.RowKit
variable {E : World}
set_option maxRecDepth 20000
theorem cI_fl : ∀ l : List Int, cI l = (l.map encI).flatten
 | [] => rfl
 | x :: l => by rw [List.map_cons, List.flatten_cons, ← cI_fl l]; rfl
def keptT (nm : Int → Int) (fr : List Int) (p : PPhi) (k : Nat) : List (Int × Int) := ((prs p).take k).filter fun z => decide (z.1 ∈ fr ∧ 0 ≤ nm z.1)
theorem gphi_spec (p : PPhi) (fr num : List Int) (nm : Int → Int) (hl : p.from_.length = p.args.length) (hl2 : p.args.length ≤ 1000) (hfr : fr.length ≤ 100000) (hn : ∀ b ∈ p.from_, 0 ≤ b ∧ num[b.toNat]? = some (nm b)) :
  AFun prog E 35 [.agg (encPhi p), .fro 1 (fr.map encI), .fro 1 (num.map encI)] (.agg (encPhi (pruneP nm fr p))) := by
 have hpl : (prs p).length = p.args.length := by unfold prs; rw [List.length_zip, hl]; omega
 refine zk func35 Z (by decide) Z<|zSr<|y6 (cs := _) Z Z Z<|zq (cs := [.int .i64 0, .raw (.slice none 0 0), .raw (.slice none 0 0)]) Zk Z Z<|fun i6 => z6<|zSr<|zVzFF jm Z jd Z Z<|zVzLi jr Z<|z8 (y4 (cps := [(0, [_])]) (rs := [_, .raw (.slice none 0 0), .raw (.slice none 0 0)]) pl60 Z Z Z)<|zq (cs := [.int .i64 0, .raw (.slice none 0 0), .raw (.slice none 0 0)]) Zk Z Z<|fun i7 => zm Z0 Z Z Z Z Z Z .head Z<|z6<|zb<|zSr<|zVzFF jm Z jn Z Z<|zVzLf jz Z<|zVGvlenM j9 Z<|zVzMi Z<|z6<|adoptC_wp (off := 1) (k := 1) (T := 3) (fun _ => .head) Z<|fun ia => adoptC_wp (off := 2) (k := 1) (T := 3) (fun _ => .t1) Z<|fun ib => zt (zn (zp .t1))<|zt (zn (zp .t2))<|zg<|y3 (γ := Nat × Nat × Nat) [1, 2, 3, 6, 7, 14, 15] (fun g => [(16, .int .i64 g.1)]) (fun g => [(i7, .cells 60 [.int .i64 p.dst, .own g.2.1 (keptT nm fr p g.1).length, .own g.2.2 (keptT nm fr p g.1).length]), (g.2.1, .grow 1 3 (cI ((keptT nm fr p g.1).map (·.2)))), (g.2.2, .grow 1 3 (cI ((keptT nm fr p g.1).map fun z => nm z.1))), (i6, .cells 60 [.int .i64 0, .raw (.slice none 0 0), .raw (.slice none 0 0)])]) (fun g => g.1 ≤ p.from_.length) (fun g => p.from_.length - g.1) (0, ia, ib) zR1 zLe (qg _) ?_
 rintro ⟨k, ia, ib⟩ hk
 try dsimp only at *
 refine zSr<|zVGvlss Z Z<|z6<|zb<|zr Z (fun ck=>?_) (fun ck=>?_)
 ·have hk2 : k < p.from_.length := by omega
  obtain ⟨b, hb⟩ : ∃ b, p.from_[k] = b := ⟨_, rfl⟩
  obtain ⟨a, ha⟩ : ∃ a, p.args[k] = a := ⟨_, rfl⟩
  have hgf : p.from_[k]? = some b := by rw [qd hk2, hb]
  have hga : p.args[k]? = some a := by rw [qd (by omega), ha]
  obtain ⟨n0, hnb⟩ := hn b (hb ▸ qh hk2)
  have hz : (prs p).take (k + 1) = (prs p).take k ++ [(b, a)] := by
   have e : (prs p)[k]? = some (b, a) := by
    unfold prs
    rw [List.getElem?_zip_eq_some]
    exact ⟨hgf, hga⟩
   rw [List.take_add_one, e]; rfl
  have hno : ¬ (b ∈ fr ∧ 0 ≤ nm b) → keptT nm fr p (k + 1) = keptT nm fr p k := fun h => by
   unfold keptT
   rw [hz, List.filter_append, List.filter_cons, if_neg (by simpa using h)]; simp
  have hye : b ∈ fr ∧ 0 ≤ nm b → keptT nm fr p (k + 1) = keptT nm fr p k ++ [(b, a)] := fun h => by
   unfold keptT
   rw [hz, List.filter_append, List.filter_cons, if_pos (by simpa using h)]; rfl
  refine zf<|zb<|zg<|zSr<|zVzMi Z<|z8 (zIM k j9 jd Z Z Z hgf)<|zVzLi jr Z<|zVzAi Z<|zVzAi Z<|z6<|zSr<|zVzMf Z<|zVzMi Z<|zd (containsZ_spec fr b (by omega)) Z<|zVzMb Z<|zo (s := 24) Z (fun c1=>?_) (fun c1=>?_)
  ·refine za Z Z c1<|zVzMf Z<|za Z Z c1<|zVzMi Z<|za Z Z c1<|z8 (zIM b.toNat j9 jd Z Z (by omega) hnb)<|za Z Z c1<|zVzLi jr Z<|za Z Z c1<|z8 (qc Z Z)<|zVzPt Z c1 Z<|z6<|zr Z (fun c2=>?_) (fun c2=>?_)
   ·have hc : b ∈ fr ∧ 0 ≤ nm b := ⟨by simpa using c1, by omega⟩
    have hkl : (keptT nm fr p k).length ≤ k := by unfold keptT; refine Nat.le_trans (List.length_filter_le _ _) ?_; rw [qp]; omega
    have h1 : (cI ((keptT nm fr p k).map fun z => nm z.1)).length = (keptT nm fr p k).length * 1 := by rw [cI_len, qk]; omega
    have h2 : (cI ((keptT nm fr p k).map (·.2))).length = (keptT nm fr p k).length * 1 := by rw [cI_len, qk]; omega
    have e1 : cI ((keptT nm fr p k).map fun z => nm z.1) ++ [AV.int .i64 (nm b)] = cI ((keptT nm fr p (k + 1)).map fun z => nm z.1) := by rw [hye hc, qo, ← cI_app]; rfl
    have e2 : cI ((keptT nm fr p k).map (·.2)) ++ [AV.int .i64 a] = cI ((keptT nm fr p (k + 1)).map (·.2)) := by rw [hye hc, qo, ← cI_app]; rfl
    have e3 : (keptT nm fr p (k + 1)).length = (keptT nm fr p k).length + 1 := by rw [hye hc, qj]; rfl
    refine yn (γ := Nat × Nat) [1, 2, 3, 6, 7, 14, 15, 16] (fun g => []) (fun g => [(i7, .cells 60 [.int .i64 p.dst, .own g.1 (keptT nm fr p (k + 1)).length, .own g.2 (keptT nm fr p (k + 1)).length]), (g.1, .grow 1 3 (cI ((keptT nm fr p (k + 1)).map (·.2)))), (g.2, .grow 1 3 (cI ((keptT nm fr p (k + 1)).map fun z => nm z.1))), (i6, .cells 60 [.int .i64 0, .raw (.slice none 0 0), .raw (.slice none 0 0)])]) (fun g => True) ?_ (fun _ _ h => h) ?_
    ·refine zw (fun j => Nat.beq j 18 || Nat.beq j 20) (by kernel_rfl) Z (zu (.r (.rest _)))<|zTk 0 Z (zc jm Z jn (by decide) Z Z)<|zTk 1 Z (zj (c := .own _ _) jz Z ⟨_, .head⟩ Z)<|zTk 2 Z (zMf Z)<|zTk 3 Z (zMi Z)<|zTk 4 Z (zIM b.toNat j9 jd Z Z (by omega) hnb)<|zTk 5 Z (zLi jr Z)<|zTk 8 Z (zc jm Z jn (by decide) Z Z)<|zTk 9 Z (zj (c := .own _ _) jz Z ⟨_, .head⟩ Z)<|yd (i := 10) Z (by kernel_rfl) (by kernel_rfl) (by kernel_rfl) (by kernel_rfl) (zFF jm Z jn Z Z)<|yd (i := 11) Z (by kernel_rfl) (by kernel_rfl) (by kernel_rfl) (by kernel_rfl) (zLf jz Z)<|yd (i := 12) Z (by kernel_rfl) (by kernel_rfl) (by kernel_rfl) (by kernel_rfl) (zMi Z)<|yd (i := 13) Z (by kernel_rfl) (by kernel_rfl) (by kernel_rfl) (by kernel_rfl) (zIM k j9 jd Z Z Z hga)<|yd (i := 14) Z (by kernel_rfl) (by kernel_rfl) (by kernel_rfl) (by kernel_rfl) (zLi jr Z)<|yy (i := 6) (j := 15) Z Z (by kernel_rfl) ?_ ?_
     ·refine zl (rows := [[_]]) ps23_1 Z Z Z Z Z<|z6<|yy (i := 7) (j := 15) Z Z (by kernel_rfl) ?_ ?_
      ·refine zy (k := 1) j9 Yx Z Z Z Z Z (fun _ => .t1) h1 (by decide) Z (by show (_ + 1) * 8 ≤ _; omega) (by show _ + 1 ≤ _; omega)<|fun i38 => z6<|zTk 17 Z (zc jm Z jn (by decide) Z Z)<|zOn 15 Z<|zl (rows := [[_]]) ps23_1 Z Z Z Z Z<|z6<|zOn 16 Z<|zy (k := 1) j9 Yx Z Z Z Z Z (fun _ => .head) h2 (by decide) Z (by show (_ + 1) * 8 ≤ _; omega) (by show _ + 1 ≤ _; omega)<|fun i47 => z6<|yb<|y7 (i := 18) Z (by kernel_rfl) (by kernel_rfl)<|y5 (l := [_]) (new := [_, _, _]) jn Z Z Z Z Z Z .head Z Z<|z6<|y7 (i := 19) Z (by kernel_rfl) (by kernel_rfl)<|z8 (zc jm Z jn (by decide) Z Z)<|z6<|y7 (i := 20) Z (by kernel_rfl) (by kernel_rfl)<|y5 (l := [_]) (new := [_, _, _]) jn Z Z Z Z Z Z .head Z Z<|z6<|yf (by kernel_rfl) ?_
       exact ⟨(i47, i38), zR8, trivial, ⟨_, (.refl _), by rw [← e1, ← e2, e3]; rfl⟩, trivial⟩
      ·refine zl (rows := [[_]]) ps23_1 Z Z Z Z Z<|z6<|zOn 7 Z<|zy (k := 1) j9 Yx Z Z Z Z Z (fun _ => .t1) h1 (by decide) Z (by show (_ + 1) * 8 ≤ _; omega) (by show _ + 1 ≤ _; omega)<|fun i38 => z6<|zTk 17 Z (zc jm Z jn (by decide) Z Z)<|zOn 16 Z<|zy (k := 1) j9 Yx Z Z Z Z Z (fun _ => .head) h2 (by decide) Z (by show (_ + 1) * 8 ≤ _; omega) (by show _ + 1 ≤ _; omega)<|fun i47 => z6<|yb<|y7 (i := 18) Z (by kernel_rfl) (by kernel_rfl)<|y5 (l := [_]) (new := [_, _, _]) jn Z Z Z Z Z Z .head Z Z<|z6<|y7 (i := 19) Z (by kernel_rfl) (by kernel_rfl)<|z8 (zc jm Z jn (by decide) Z Z)<|z6<|y7 (i := 20) Z (by kernel_rfl) (by kernel_rfl)<|y5 (l := [_]) (new := [_, _, _]) jn Z Z Z Z Z Z .head Z Z<|z6<|yf (by kernel_rfl) ?_
       exact ⟨(i47, i38), zR8, trivial, ⟨_, (.refl _), by rw [← e1, ← e2, e3]; rfl⟩, trivial⟩
     ·refine zl (rows := [[_]]) ps23_1 Z Z Z Z Z<|z6<|zOn 6 Z<|zl (rows := [[_]]) ps23_1 Z Z Z Z Z<|z6<|zOn 7 Z<|zy (k := 1) j9 Yx Z Z Z Z Z (fun _ => .t1) h1 (by decide) Z (by show (_ + 1) * 8 ≤ _; omega) (by show _ + 1 ≤ _; omega)<|fun i38 => z6<|zTk 17 Z (zc jm Z jn (by decide) Z Z)<|zOn 16 Z<|zy (k := 1) j9 Yx Z Z Z Z Z (fun _ => .head) h2 (by decide) Z (by show (_ + 1) * 8 ≤ _; omega) (by show _ + 1 ≤ _; omega)<|fun i47 => z6<|yb<|y7 (i := 18) Z (by kernel_rfl) (by kernel_rfl)<|y5 (l := [_]) (new := [_, _, _]) jn Z Z Z Z Z Z .head Z Z<|z6<|y7 (i := 19) Z (by kernel_rfl) (by kernel_rfl)<|z8 (zc jm Z jn (by decide) Z Z)<|z6<|y7 (i := 20) Z (by kernel_rfl) (by kernel_rfl)<|y5 (l := [_]) (new := [_, _, _]) jn Z Z Z Z Z Z .head Z Z<|z6<|yf (by kernel_rfl) ?_
      exact ⟨(i47, i38), zR8, trivial, ⟨_, (.refl _), by rw [← e1, ← e2, e3]; rfl⟩, trivial⟩
    ·rintro ⟨ia, ib⟩ _
     refine zRg<|zVzAd Z Z<|zVzMi Z<|z6 ?_
     exact ⟨(k + 1, ia, ib), zR7, zR1, zLe, hk2, by dsimp only; omega⟩
   ·have hc : ¬ (b ∈ fr ∧ 0 ≤ nm b) := fun h => by omega
    refine zf<|zRg<|zVzAd Z Z<|zVzMi Z<|z6 ?_
    exact ⟨(k + 1, ia, ib), zR7, zR1, ⟨_, (.refl _), by rw [hno hc]⟩, hk2, by dsimp only; omega⟩
  ·have hc : ¬ (b ∈ fr ∧ 0 ≤ nm b) := fun h => by simp [h.1] at c1
   refine z7 Z Z c1<|z7 Z Z c1<|z7 Z Z c1<|z7 Z Z c1<|z7 Z Z c1<|zVzPf Z c1 Z<|z6<|yc Z Z<|zf<|zRg<|zVzAd Z Z<|zVzMi Z<|z6 ?_
   exact ⟨(k + 1, ia, ib), zR7, zR1, ⟨_, (.refl _), by rw [hno hc]⟩, hk2, by dsimp only; omega⟩
 ·obtain rfl : k = p.from_.length := by omega
  have hkt : keptT nm fr p p.from_.length = kept nm fr p := by unfold keptT kept; rw [List.take_of_length_le (by omega)]
  rw [hkt, cI_fl, cI_fl]
  refine zt (ym (off := 1) (rows := ((kept nm fr p).map (·.2)).map encI) .t1 .head Z (by intro r hr; obtain ⟨z, _, rfl⟩ := List.mem_map.1 hr; rfl) (by decide) (by simp))<|zt (ym (off := 2) (rows := ((kept nm fr p).map fun z => nm z.1).map encI) .t1 .head Z (by intro r hr; obtain ⟨z, _, rfl⟩ := List.mem_map.1 hr; rfl) (by decide) (by simp))<|y2<|zSr<|z8 (yg Zv Z0 Z ⟨_, .head⟩ Z)<|zm Z0 Z Z Z Z Z Z .t1 Z<|z6<|ze<|afin.c1 Z ⟨_, .t1⟩ Zv Z0 Z ?_
  rfl
end Go.Proofs.YtbkgklpihnfnjaaGreatDoor
namespace Go.Proofs.YtbkgklpihnfnjaaGreatDoor
open Go.Proofs.Tryz
open Go.Proofs Go.Lib Go.Shelf Go.RowKit
open Go.Sort (SWO)
theorem pl127 : Places prog 127 #[(0, 1), (1, 1)] [.int .i64 0, .int .i64 0] := ⟨_, _, underlying127, zeroValue127, fun w => by kernel_rfl, rfl⟩
theorem ps125_1 : PlacesS prog 125 127 1 2 [.int .i64 0, .int .i64 0] := ⟨_, underlying125, sizeOf127, zeroValue127, by decide, by decide, by kernel_rfl⟩
variable {E : World}
set_option maxRecDepth 20000
def cfP (x y : Int × Int) : Int := compareInt x.1 y.1
theorem ltP_eq (x y : Int × Int) : ltOf cfP x y = decide (x.1 < y.1) := by
 unfold ltOf cfP compareInt
 by_cases h1 : x.1 < y.1
 ·simp [h1]
 ·by_cases h2 : y.1 < x.1 <;> simp [h1, h2]
theorem swoP : SWO (ltOf cfP) where
 irrefl x := by rw [ltP_eq]; simp
 trans x y z h1 h2 := by rw [ltP_eq] at *; simp at *; omega
 ntrans x y z h1 h2 := by rw [ltP_eq] at *; simp at *; omega
set_option maxHeartbeats 1000000 in
theorem cmpP (x y : Int × Int) (W : World) : Calls prog 71 #[.agg #[.int .i64 x.1, .int .i64 x.2], .agg #[.int .i64 y.1, .int .i64 y.2]] W fun e w' => e = .returned (.int .i64 (cfP x y)) ∧ ∃ q os', w' = Go.Sort.grow (W.drewN q) os' := by
 have hcon := fun W' => Tryz.cmp_Compare_int x.1 y.1 W'
 change ∀ W', Calls prog 72 _ _ _ at hcon
 unfold cfP
 generalize compareInt x.1 y.1 = r at hcon ⊢
 go_enter func71, Tryz.ntmps71
 go_wp2_with (go_at_call 72; refine (hcon _).mono ?_; rintro e w' ⟨rfl, rfl⟩)
 go_ret
 exact ⟨rfl, 0, _, by rw [Go.Sort.alloc_eq_grow, Go.Sort.alloc_eq_grow, Go.Sort.grow_grow]; rfl⟩
theorem sortP_own (l : List (Int × Int)) (i n : Nat) (T : TypeId) (hl : l.length = n) (hB : n < 1000000) : ACall prog E 70 [.own i n, .fn 71 [] []] [(i, .grow 2 T (lC l))] fun r O => ∃ l' : List (Int × Int), r = .tup [] ∧ O = [(i, .grow 2 T (lC l'))] ∧ l'.Perm l ∧ l'.Pairwise fun a b => ltOf cfP b a = false :=
 ACall.sortedK eP (B := 1000000) func70 rfl (by decide)
  (fun blk cap d w hH hb hz => AnyQ.slices_SortFunc Tryz.sortPr 2 isAgg127 sizeOf127 eP.val eP.len eP.one cfP swoP 71 #[] blk 0 cap d w (enters_of func71 (by kernel_rfl) rfl) (fun _ _ _ _ x y => cmpP x y _) hH hb (by omega))
  (fun cap w => AnyF.slices_SortFunc_none (P := prog) (ρ := Tryz.sortPr_ren) { Tryz.sortPr with } none cap _ w) hl hB
def prT1 (l : List Int) (p : PPhi) (k : Nat) : List (Int × Int) := ((prs p).take k).map fun z => (posI l z.1, z.2)
theorem sorted_spec (p : PPhi) (l place : List Int) (hn : l.Nodup) (hD : DistP p) (hl : p.from_.length = p.args.length) (hl2 : p.args.length ≤ 1000) (hpl : ∀ b ∈ p.from_, 0 ≤ b ∧ b ∈ l ∧ place[b.toNat]? = some (posI l b)) :
  AFun prog E 38 [.agg (encPhi p), .fro 1 (place.map encI)] (.agg (encPhi (phD l p))) := by
 have hpl0 : (prs p).length = p.args.length := by unfold prs; rw [List.length_zip, hl]; omega
 refine zk func38 Z (by decide) Z<|zSr<|y6 (cs := _) Z Z Z<|zq (cs := [.int .i64 0, .raw (.slice none 0 0), .raw (.slice none 0 0)]) Zk Z Z<|fun i4 => z6<|zSr<|zVzAr Z<|z6<|zb<|zSr<|zVzFF jm Z jn Z Z<|zVzLf jz Z<|zVGvlenM j9 Z<|zVzMi Z<|z6<|adopt_wp (t := 5) (k := 2) (T := 127) Z<|fun i5 => zg<|y3 (γ := Nat × Nat) [1, 2, 4, 12, 13] (fun g => [(14, .int .i64 g.1), (5, .own g.2 g.1)]) (fun g => [(g.2, .grow 2 127 (lC (prT1 l p g.1))), (i4, .cells 60 [.int .i64 0, .raw (.slice none 0 0), .raw (.slice none 0 0)])]) (fun g => g.1 ≤ p.args.length) (fun g => p.args.length - g.1) (0, i5) zR2 zLe (qg _) ?_
 rintro ⟨k, i5⟩ hk
 try dsimp only at *
 refine zSr<|zVGvlss Z Z<|z6<|zb<|zr Z (fun ck=>?_) (fun ck=>?_)
 ·have hk2 : k < p.args.length := by omega
  obtain ⟨b, hb⟩ : ∃ b, p.from_[k] = b := ⟨_, rfl⟩
  obtain ⟨a, ha⟩ : ∃ a, p.args[k] = a := ⟨_, rfl⟩
  have hgf : p.from_[k]? = some b := by rw [qd (by omega), hb]
  have hga : p.args[k]? = some a := by rw [qd hk2, ha]
  obtain ⟨n0, nm, hnb⟩ := hpl b (hb ▸ qh (by omega))
  have hkl : (prT1 l p k).length = k := by unfold prT1; rw [qk, qp]; omega
  have hz : prT1 l p (k + 1) = prT1 l p k ++ [(posI l b, a)] := by
   have e : (prs p)[k]? = some (b, a) := by
    unfold prs
    rw [List.getElem?_zip_eq_some]
    exact ⟨hgf, hga⟩
   unfold prT1
   rw [List.take_add_one, e, qo]; rfl
  refine zf<|zb<|zg<|zSr<|zVzMi Z<|z8 (zIM k j9 jd Z Z Z hga)<|zVzLi jr Z<|zVzAi Z<|zVzAi Z<|z6<|zRg<|zVzMo Z<|zVzMf Z<|zVzFF jm Z jn Z Z<|zVzLf jz Z<|zVzMi Z<|z8 (zIM k j9 jd Z Z Z hgf)<|zVzLi jr Z<|z8 (zIM b.toNat j9 jd Z Z (by omega) hnb)<|zVzLi jr Z<|zVzMi Z<|z8 (y4 (cps := [(0, [_]), (1, [_])]) (rs := [_, _]) pl127 Z Z Z)<|zl (rows := [[_, _]]) ps125_1 Z Z Z Z Z<|zy (k := 2) underlying125 type127 Z Z Z Z Z (fun _ => .head) (by rw [lC_len, hkl]) (by decide) Z (by show (_ + _) * 16 ≤ _; simp <;> omega) (by simp <;> omega)<|fun i31 => zVzAo Z<|z6<|zRg<|zVzAd Z Z<|zVzMi Z<|z6 ?_
  exact ⟨(k + 1, i31), zR5, zR2, ⟨_, (.refl _), by rw [hz, ← lC_push]; rfl⟩, hk2, by dsimp only; omega⟩
 ·obtain rfl : k = p.args.length := by omega
  have hL : prT1 l p p.args.length = (prs p).map fun z => (posI l z.1, z.2) := by unfold prT1; rw [List.take_of_length_le (by omega)]
  rw [hL]
  refine y2<|zSr<|zVzMo Z<|ye Z (zu (.l (.r (.rest _)))) (sortP_own ((prs p).map fun z => (posI l z.1, z.2)) i5 p.args.length 127 (by rw [qk, hpl0]) (by omega)) ?_
  rintro r34 O34 ⟨L, rfl, rfl, hp, hs⟩
  refine z6 ?_
  have hLe : L = phPairs l p := pairs_of_sorted hn hD (fun x hx => (hpl x hx).2.1) (hs.imp fun {a b} h => by rw [ltP_eq] at h; simp at h; exact h) hp
  have hLl : L.length = p.args.length := by rw [hp.length_eq, qk, hpl0]
  refine zt (GStep.knowR (t := 5) Z .head hLl) ?_
  subst hLe
  refine zSr<|zVzFF jm Z jd Z Z<|zVzLi jr Z<|z8 (y4 (cps := [(0, [_])]) (rs := [_, .raw (.slice none 0 0), .raw (.slice none 0 0)]) pl60 Z Z Z)<|zq (cs := [.int .i64 0, .raw (.slice none 0 0), .raw (.slice none 0 0)]) Zk Z Z<|fun i8 => zm Z0 Z Z Z Z Z Z .head Z<|z6<|adoptC_wp (off := 1) (k := 1) (T := 3) (fun _ => .head) Z<|fun ia => adoptC_wp (off := 2) (k := 1) (T := 3) (fun _ => .t1) Z<|fun ib => zt (zn (zp .t1))<|zt (zn (zp .t2))<|zb<|zSr<|zVzMf Z<|zVGvlenM underlying125 Z<|zVzMi Z<|z6<|zg<|y3 (γ := Nat × Nat × Nat) [4, 8, 38, 39] (fun g => [(40, .int .i64 g.1)]) (fun g => [(i8, .cells 60 [.int .i64 p.dst, .own g.2.1 g.1, .own g.2.2 g.1]), (g.2.1, .grow 1 3 (cI (((phPairs l p).take g.1).map (·.2)))), (g.2.2, .grow 1 3 (cI (((phPairs l p).take g.1).map (·.1)))), (i4, .cells 60 [.int .i64 0, .raw (.slice none 0 0), .raw (.slice none 0 0)])]) (fun g => g.1 ≤ (phPairs l p).length) (fun g => (phPairs l p).length - g.1) (0, ia, ib) zR1 zLe (qg _) ?_
  rintro ⟨k, ia, ib⟩ hk
  try dsimp only at *
  refine zSr<|zVGvlss Z Z<|z6<|zb<|zr Z (fun ck=>?_) (fun ck=>?_)
  ·have hk2 : k < (phPairs l p).length := by omega
   obtain ⟨z, hz⟩ : ∃ z, (phPairs l p)[k] = z := ⟨_, rfl⟩
   have hgz : (phPairs l p)[k]? = some z := by rw [qd hk2, hz]
   have h1 : (cI (((phPairs l p).take k).map (·.1))).length = k * 1 := by rw [cI_len, qk, qp]; omega
   have h2 : (cI (((phPairs l p).take k).map (·.2))).length = k * 1 := by rw [cI_len, qk, qp]; omega
   have e1 : cI (((phPairs l p).take k).map (·.1)) ++ [AV.int .i64 z.1] = cI (((phPairs l p).take (k + 1)).map (·.1)) := by rw [List.take_add_one, hgz, qo, ← cI_app]; rfl
   have e2 : cI (((phPairs l p).take k).map (·.2)) ++ [AV.int .i64 z.2] = cI (((phPairs l p).take (k + 1)).map (·.2)) := by rw [List.take_add_one, hgz, qo, ← cI_app]; rfl
   refine zf<|zb<|yn (γ := Nat × Nat) [4, 8, 38, 39, 40] (fun g => []) (fun g => [(i8, .cells 60 [.int .i64 p.dst, .own g.1 (k + 1), .own g.2 (k + 1)]), (g.1, .grow 1 3 (cI (((phPairs l p).take (k + 1)).map (·.2)))), (g.2, .grow 1 3 (cI (((phPairs l p).take (k + 1)).map (·.1)))), (i4, .cells 60 [.int .i64 0, .raw (.slice none 0 0), .raw (.slice none 0 0)])]) (fun g => True) ?_ (fun _ _ h => h) ?_
   ·refine zg<|zSr<|z8 (zIM k underlying125 sizeOf127 Z Z Z hgz)<|zVGvloadWF isAgg127 sizeOf127 Z Z<|zq (cs := [.int .i64 0, .int .i64 0]) zeroValue127 Z Z<|fun i10 => zm sizeOf127 Z Z Z Z Z Z .head Z<|y1 (yj (t := 10) Z .head)<|z6<|zw (fun j => Nat.beq j 13 || Nat.beq j 15) (by kernel_rfl) Z (zu (.r (.rest _)))<|zTk 0 Z (zc jm Z jn (by decide) Z Z)<|zTk 1 Z (zj (c := .own _ _) jz Z ⟨_, .head⟩ Z)<|zTk 2 Z (zFF underlying127 Z jd Z Z)<|zTk 3 Z (zLi jr Z)<|zTk 6 Z (zc jm Z jn (by decide) Z Z)<|zTk 7 Z (zj (c := .own _ _) jz Z ⟨_, .head⟩ Z)<|yd (i := 8) Z (by kernel_rfl) (by kernel_rfl) (by kernel_rfl) (by kernel_rfl) (zFF underlying127 Z jd Z Z)<|yd (i := 9) Z (by kernel_rfl) (by kernel_rfl) (by kernel_rfl) (by kernel_rfl) (zLi jr Z)<|yy (i := 4) (j := 10) Z Z (by kernel_rfl) ?_ ?_
    ·refine zl (rows := [[_]]) ps23_1 Z Z Z Z Z<|z6<|yy (i := 5) (j := 10) Z Z (by kernel_rfl) ?_ ?_
     ·refine zy (k := 1) j9 Yx Z Z Z Z Z (fun _ => .t1) h1 (by decide) Z (by show (_ + 1) * 8 ≤ _; omega) (by show _ + 1 ≤ _; omega)<|fun i49 => z6<|zTk 12 Z (zc jm Z jn (by decide) Z Z)<|zOn 10 Z<|zl (rows := [[_]]) ps23_1 Z Z Z Z Z<|z6<|zOn 11 Z<|zy (k := 1) j9 Yx Z Z Z Z Z (fun _ => .head) h2 (by decide) Z (by show (_ + 1) * 8 ≤ _; omega) (by show _ + 1 ≤ _; omega)<|fun i55 => z6<|yb<|y7 (i := 13) Z (by kernel_rfl) (by kernel_rfl)<|y5 (l := [_]) (new := [_, _, _]) jn Z Z Z Z Z Z .head Z Z<|z6<|y7 (i := 14) Z (by kernel_rfl) (by kernel_rfl)<|z8 (zc jm Z jn (by decide) Z Z)<|z6<|y7 (i := 15) Z (by kernel_rfl) (by kernel_rfl)<|y5 (l := [_]) (new := [_, _, _]) jn Z Z Z Z Z Z .head Z Z<|z6<|yf (by kernel_rfl) ?_
      exact ⟨(i55, i49), zR5, trivial, ⟨_, (.refl _), by rw [← e1, ← e2]; rfl⟩, trivial⟩
     ·refine zl (rows := [[_]]) ps23_1 Z Z Z Z Z<|z6<|zOn 5 Z<|zy (k := 1) j9 Yx Z Z Z Z Z (fun _ => .t1) h1 (by decide) Z (by show (_ + 1) * 8 ≤ _; omega) (by show _ + 1 ≤ _; omega)<|fun i49 => z6<|zTk 12 Z (zc jm Z jn (by decide) Z Z)<|zOn 11 Z<|zy (k := 1) j9 Yx Z Z Z Z Z (fun _ => .head) h2 (by decide) Z (by show (_ + 1) * 8 ≤ _; omega) (by show _ + 1 ≤ _; omega)<|fun i55 => z6<|yb<|y7 (i := 13) Z (by kernel_rfl) (by kernel_rfl)<|y5 (l := [_]) (new := [_, _, _]) jn Z Z Z Z Z Z .head Z Z<|z6<|y7 (i := 14) Z (by kernel_rfl) (by kernel_rfl)<|z8 (zc jm Z jn (by decide) Z Z)<|z6<|y7 (i := 15) Z (by kernel_rfl) (by kernel_rfl)<|y5 (l := [_]) (new := [_, _, _]) jn Z Z Z Z Z Z .head Z Z<|z6<|yf (by kernel_rfl) ?_
      exact ⟨(i55, i49), zR5, trivial, ⟨_, (.refl _), by rw [← e1, ← e2]; rfl⟩, trivial⟩
    ·refine zl (rows := [[_]]) ps23_1 Z Z Z Z Z<|z6<|zOn 4 Z<|zl (rows := [[_]]) ps23_1 Z Z Z Z Z<|z6<|zOn 5 Z<|zy (k := 1) j9 Yx Z Z Z Z Z (fun _ => .t1) h1 (by decide) Z (by show (_ + 1) * 8 ≤ _; omega) (by show _ + 1 ≤ _; omega)<|fun i49 => z6<|zTk 12 Z (zc jm Z jn (by decide) Z Z)<|zOn 11 Z<|zy (k := 1) j9 Yx Z Z Z Z Z (fun _ => .head) h2 (by decide) Z (by show (_ + 1) * 8 ≤ _; omega) (by show _ + 1 ≤ _; omega)<|fun i55 => z6<|yb<|y7 (i := 13) Z (by kernel_rfl) (by kernel_rfl)<|y5 (l := [_]) (new := [_, _, _]) jn Z Z Z Z Z Z .head Z Z<|z6<|y7 (i := 14) Z (by kernel_rfl) (by kernel_rfl)<|z8 (zc jm Z jn (by decide) Z Z)<|z6<|y7 (i := 15) Z (by kernel_rfl) (by kernel_rfl)<|y5 (l := [_]) (new := [_, _, _]) jn Z Z Z Z Z Z .head Z Z<|z6<|yf (by kernel_rfl) ?_
     exact ⟨(i55, i49), zR5, trivial, ⟨_, (.refl _), by rw [← e1, ← e2]; rfl⟩, trivial⟩
   ·rintro ⟨ia, ib⟩ _
    refine zRg<|zVzAd Z Z<|zVzMi Z<|z6 ?_
    exact ⟨(k + 1, ia, ib), zR4, zR1, zLe, hk2, by dsimp only; omega⟩
  ·obtain rfl : k = (phPairs l p).length := by omega
   rw [qi, cI_fl, cI_fl]
   refine zt (ym (off := 1) (rows := ((phPairs l p).map (·.2)).map encI) .t1 .head Z (by intro r hr; obtain ⟨z, _, rfl⟩ := List.mem_map.1 hr; rfl) (by decide) (by simp))<|zt (ym (off := 2) (rows := ((phPairs l p).map (·.1)).map encI) .t1 .head Z (by intro r hr; obtain ⟨z, _, rfl⟩ := List.mem_map.1 hr; rfl) (by decide) (by simp))<|y2<|zSr<|z8 (yg Zv Z0 Z ⟨_, .head⟩ Z)<|zm Z0 Z Z Z Z Z Z .t1 Z<|z6<|ze<|afin.c1 Z ⟨_, .t1⟩ Zv Z0 Z ?_
   rfl
end Go.Proofs.YtbkgklpihnfnjaaGreatDoor
namespace Go.Proofs.YtbkgklpihnfnjaaGreatDoor
open Go.Proofs.Tryz
open Go.Proofs Go.Lib
theorem trm_two {ν β : Int → Int} (t : PTerm) : trmM ν id (trmM id β t) = trmM ν β t := by
 unfold trmM
 by_cases h0 : t.kind = 0
 ·rw [if_pos h0]; dsimp only; rw [if_pos h0, if_pos h0]; rfl
 ·rw [if_neg h0]
  by_cases h1 : t.kind = 1
  ·rw [if_pos h1]; dsimp only; rw [if_neg h0, if_pos h1, if_neg h0, if_pos h1]; rfl
  ·rw [if_neg h1]; dsimp only; rw [if_neg h0, if_neg h1, if_neg h0, if_neg h1]; rfl
section
variable {f : PFunc}
theorem canB_get {k : Nat} {x : Int} (h : (ord f)[k]? = some x) : (canB f)[k]? = some (turnB (ord f) k (blkX f x)) := by
 unfold canB
 rw [ql, List.getElem?_zipIdx, h]
 show some (turnB (ord f) (0 + k) _) = _
 rw [Nat.zero_add]
theorem canB_len : (canB f).length = (ord f).length := by unfold canB; rw [qk, List.length_zipIdx]
theorem can_blk {k : Nat} {x : Int} (h : (ord f)[k]? = some x) : (canD f).blocks[k]? = some (mapV (posI (vsL f)) (turnB (ord f) k (blkX f x))) := by
 show ((canB f).map _)[k]? = _
 rw [ql, canB_get h]; rfl
theorem can_len : (canD f).blocks.length = (ord f).length := by
 show ((canB f).map _).length = _
 rw [qk, canB_len]
theorem can_at (hE : EndsOk f) {x : Int} (hx : x ∈ ord f) : blkX (canD f) (posI (ord f) x) = mapV (posI (vsL f)) (turnB (ord f) (posI (ord f) x).toNat (blkX f x)) := by
 obtain ⟨h1, h2, _⟩ := at_pos hx
 have := can_blk h1
 unfold blkX
 rw [this]; rfl
theorem vs_nodup : (vsL f).Nodup := see_nodup (by simp)
theorem vs_blk {x : Int} (hx : x ∈ ord f) {v : Int} (hv : v ∈ blkVars (turnB (ord f) (posI (ord f) x).toNat (blkX f x))) : v ∈ vsL f := by
 unfold vsL
 rw [see_mem]
 right
 refine List.mem_append_right _ (List.mem_flatMap.2 ⟨_, ?_, hv⟩)
 exact qm (canB_get (at_pos hx).1)
theorem vs_par {v : Int} (h : v ∈ f.params) : v ∈ vsL f := by unfold vsL; rw [see_mem]; exact .inr (List.mem_append_left _ h)
theorem par_nodup (hS : ShapedP f) : f.params.Nodup := by
 rw [List.nodup_iff_pairwise_ne, List.pairwise_iff_getElem]
 intro i j hi hj hij
 rw [hS.2.1 i hi, hS.2.1 j hj]
 omega
theorem pos_par (hS : ShapedP f) {v : Int} (h : v ∈ f.params) : posI (vsL f) v = v := by
 obtain ⟨i, hi, e⟩ := List.getElem_of_mem h
 have hp : f.params <+: vsL f := by
  unfold vsL
  rw [see_app, see_new (par_nodup hS) (by simp), List.nil_append]
  exact see_pre
 have h1 : (vsL f)[i]? = some v := by
  rw [← e]
  obtain ⟨t, ht⟩ := hp
  rw [← ht, List.getElem?_append_left hi, qd hi]
 rw [pos_at vs_nodup h1, ← e, hS.2.1 i hi]
theorem pairs_mem {l : List Int} {p : PPhi} (hD : DistP p) {x a : Int} (hx : x ∈ l) (h : (x, a) ∈ prs p) : a ∈ phiVars (phD l p) := by
 unfold phiVars phD
 exact .tail _ (List.mem_map.2 ⟨(posI l x, a), mem_pairs.2 ⟨(posI l x).toNat, x, (at_pos hx).1, by rw [qt (at_pos hx).2.1], (look_iff hD).2 h⟩, rfl⟩)
theorem vs_has (hT : typedB f = true) (hJ : JoinP f) : ∀ v ∈ vsL f, hasV f v = true := by
 have hS := typedS hT
 have hE := typedE hT
 have hrg : ∀ {x : Int}, x ∈ ord f → 0 ≤ x ∧ x < f.blocks.length := fun hx => order_rng hE.grph.toEOk hx
 have h := (prune_like hE hS hJ).vars fun x hx p hp => phi_dist hS hJ (hrg hx).1 (hrg hx).2 hp
 exact h.2
theorem can_ends (hT : typedB f = true) : EndsOk (canD f) := by
 have hE := typedE hT
 have hz := zero_ord hE
 refine ⟨by rw [can_len]; exact List.length_pos_of_mem hz, fun b hb c hc => ?_⟩
 obtain ⟨k, hk⟩ := List.getElem?_of_mem hb
 have hkl : k < (ord f).length := by rw [← can_len]; exact (List.getElem?_eq_some_iff.1 hk).1
 have hx := qd hkl
 rw [can_blk hx] at hk
 have hxm := qm hx
 have hr := order_rng hE.grph.toEOk hxm
 rw [← Option.some.inj hk] at hc
 have hend : ∀ c ∈ endsL (blkX f (ord f)[k]).term, c ∈ ord f := by rw [← ends_at hr.1 hr.2]; exact fun c hc => ord_rch hE hxm hc
 have hc : c ∈ endsL (trmM (posI (vsL f)) id (trmM id (posI (ord f)) (blkX f (ord f)[k]).term)) := hc
 rw [trm_two, endsL_map fun a ha b hb e => pos_inj (hend a ha) (hend b hb) e] at hc
 obtain ⟨a, ha, rfl⟩ := List.mem_map.1 hc
 have := at_pos (hend a ha)
 rw [can_len]
 exact ⟨this.2.1, this.2.2⟩
theorem zip_two {ν : Int → Int} : ∀ l : List (Int × Int), (l.map (·.1)).zip ((l.map (·.2)).map ν) = l.map fun z => (z.1, ν z.2)
 | [] => rfl
 | z :: l => by rw [List.map_cons, List.map_cons, List.map_cons, List.zip_cons_cons, zip_two l]; rfl
theorem can_like (hT : typedB f = true) (hJ : JoinP f) : Like (· ∈ ord f) (· ∈ vsL f) (posI (ord f)) (posI (vsL f)) f (canD f) := by
 have hS := typedS hT
 have hE := typedE hT
 have hn : (ord f).Nodup := order_nodup hE.grph.toEOk
 have hrg : ∀ {x : Int}, x ∈ ord f → 0 ≤ x ∧ x < f.blocks.length := fun hx => order_rng hE.grph.toEOk hx
 have hvs := vs_has hT hJ
 refine { okf := hE, okg := can_ends hT, r0 := zero_ord hE, b0 := pos_at hn (order_head hE.grph.toEOk), rng := fun x hx => ?_, cl := fun x hx c hc => ord_rch hE hx hc, onto := fun y h0 h1 => ?_, inj := fun x y => pos_inj, blk := fun x hx => ?_, par := Z, parv := fun v hv => ⟨vs_par hv, pos_par hS hv⟩, vty := fun v hv => ?_, vinj := fun u v => pos_inj }
 ·have := at_pos hx
  exact ⟨hrg hx, this.2.1, by rw [can_len]; exact this.2.2⟩
 ·rw [can_len] at h1
  have hk : y.toNat < (ord f).length := by omega
  exact ⟨(ord f)[y.toNat], qh hk, by rw [pos_at hn (qd hk)]; omega⟩
 ·rw [can_at hE hx]
  have hr := hrg hx
  have hm := blkX_mem hr.1 hr.2
  have hv := fun v => vs_blk (f := f) hx (v := v)
  refine ⟨?_, fun i p q hp hq => ?_, Z, fun z hz v hz2 => hv v ?_, ?_, fun v hz => hv v ?_⟩
  ·show (((blkX f x).phis.map _).map _).length = _
   rw [qk, qk]
  ·have hq : (((blkX f x).phis.map (phD (ord f))).map (phM (posI (vsL f))))[i]? = some q := hq
   rw [ql, ql, hp] at hq
   have hq := (Option.some.inj hq).symm
   subst hq
   have hpm := qm hp
   have hD := phi_dist hS hJ hr.1 hr.2 hpm
   have hphi : ∀ v ∈ phiVars (phD (ord f) p), v ∈ vsL f := fun v h => hv v (List.mem_append_left _ (List.mem_flatMap.2 ⟨_, List.mem_map.2 ⟨p, hpm, rfl⟩, h⟩))
   refine ⟨Z, hphi _ (.head _), ?_, (prs p).filter (fun z => decide (z.1 ∈ ord f)), fun z=>?_, List.filter_sublist, fun z hz => ?_, ?_⟩
   ·show ((phPairs _ p).map _).length = (((phPairs _ p).map _).map _).length
    rw [qk, qk, qk]
   ·rw [List.mem_filter, qu]
   ·obtain ⟨z1, z2⟩ := List.mem_filter.1 hz
    exact hphi _ (pairs_mem hD (of_decide_eq_true z2) z1)
   ·show (((phPairs (ord f) p).map (·.1)).zip (((phPairs (ord f) p).map (·.2)).map (posI (vsL f)))).Perm _
    rw [zip_two]
    have := (pairs_perm hn hD).map fun z : Int × Int => (z.1, posI (vsL f) z.2)
    rw [List.map_map] at this
    exact this
  ·exact List.mem_append_right _ (List.mem_append_left _ (List.mem_flatMap.2 ⟨z, hz, hz2⟩))
  ·exact trm_two _
  ·refine List.mem_append_right _ (List.mem_append_right _ ?_)
   show v ∈ termVars (trmM id (posI (ord f)) (blkX f x).term)
   unfold termVars at hz ⊢
   unfold trmM
   by_cases h0 : (blkX f x).term.kind = 0
   ·rw [if_pos h0] at hz; cases hz
   ·rw [if_neg h0] at hz ⊢
    by_cases h1 : (blkX f x).term.kind = 1
    ·rw [if_pos h1, if_neg h0]; exact hz
    ·rw [if_neg h1, if_neg h0]; exact hz
 ·have hh := hvs v hv
  have := at_pos hv
  unfold hasV at hh
  simp only [qs, qu] at hh
  refine ⟨hh.1, this.2.1, ?_⟩
  unfold kindV
  show ((((vsL f).zipIdx.map (canV f))[_]?).map _).getD 0 = _
  rw [ql, List.getElem?_zipIdx, this.1]; rfl
theorem vs_len (hT : typedB f = true) (hJ : JoinP f) : (vsL f).length ≤ f.vars.length := by
 have h := vs_has hT hJ
 have hs : ∀ v ∈ vsL f, v ∈ intsTo f.vars.length := fun v hv => by
  have := h v hv
  unfold hasV at this
  simp only [qs, qu] at this
  exact mem_intsTo.2 this
 have := List.Nodup.length_le_of_subset vs_nodup hs
 rwa [intsTo_len] at this
end
end Go.Proofs.YtbkgklpihnfnjaaGreatDoor
namespace Go.Proofs.YtbkgklpihnfnjaaGreatDoor
open Go.Proofs.Tryz
open Go.Proofs Go.Lib
section
variable {f : PFunc}
theorem ord_sum (hE : EndsOk f) (g : Nat → Nat) : ((ord f).map fun x => g x.toNat).sum ≤ ((List.range f.blocks.length).map g).sum := by
 have hp : (ord f).Perm ((rlL f).map fun b : Nat => (b : Int)) := by
  refine (List.perm_ext_iff_of_nodup (order_nodup hE.grph.toEOk) ?_).2 fun x=>?_
  ·rw [List.nodup_iff_pairwise_ne, List.pairwise_map]
   exact (List.nodup_iff_pairwise_ne.1 rl_nodup).imp fun h e => h (by omega)
  ·rw [List.mem_map]
   constructor
   ·intro h
    have h0 := order_rng hE.grph.toEOk h
    exact ⟨x.toNat, (mem_rl hE).2 (by rwa [qt h0.1]), qt h0.1⟩
   ·rintro ⟨b, hb, rfl⟩
    exact (mem_rl hE).1 hb
 rw [((hp.map fun x => g x.toNat).sum_nat), List.map_map]
 exact sum_sub List.filter_sublist
theorem blocks_sum (g : PBlock → Nat) : f.blocks.map g = (List.range f.blocks.length).map fun b : Nat => g (blkX f b) := by
 apply List.ext_getElem
 ·simp
 ·intro i h1 h2
  rw [List.getElem_map, List.getElem_map, List.getElem_range, blkX_get (qd (by simpa using h1))]
theorem can_vlen : (canD f).vars.length = (vsL f).length := by
 show ((vsL f).zipIdx.map _).length = _
 rw [qk, List.length_zipIdx]
theorem can_var {i : Nat} (hi : i < (canD f).vars.length) : (canD f).vars[i] = ⟨nameK 118 i, kindV f ((vsL f)[i]'(by rw [← can_vlen]; exact hi))⟩ := by
 have hi2 : i < (vsL f).length := by rw [← can_vlen]; exact hi
 have : (canD f).vars[i]? = some ⟨nameK 118 i, kindV f (vsL f)[i]⟩ := by
  show ((vsL f).zipIdx.map (canV f))[i]? = _
  rw [ql, List.getElem?_zipIdx, qd hi2]
  show some (canV f (_, 0 + i)) = _
  rw [Nat.zero_add]; rfl
 rw [qd hi] at this
 exact Option.some.inj this
theorem can_name {i : Nat} (hi : i < (canD f).blocks.length) : (canD f).blocks[i].name = nameK 98 i := by
 have hi2 : i < (ord f).length := by rw [← can_len]; exact hi
 have := can_blk (qd hi2)
 rw [qd hi] at this
 rw [Option.some.inj this]; rfl
theorem can_typed (hT : typedB f = true) (hJ : JoinP f) : typedB (canD f) = true ∧ JoinP (canD f) := by
 have hS := typedS hT
 have hE := typedE hT
 have h := can_like hT hJ
 have hrg : ∀ {x : Int}, x ∈ ord f → 0 ≤ x ∧ x < f.blocks.length := fun hx => order_rng hE.grph.toEOk hx
 have h1 := hS.1
 unfold bad1 at h1
 simp only [Bool.or_eq_false_iff, decide_eq_false_iff_not] at h1
 have hv := vs_len hT hJ
 have hb : (ord f).length ≤ f.blocks.length := order_len hE.grph
 have hp : f.params.length ≤ (vsL f).length := List.Nodup.length_le_of_subset (par_nodup hS) fun v hv => vs_par hv
 have hpos := (can_ends hT).pos
 refine ⟨h.typed hS (fun v hv => ?_) (fun x hx p hp => phi_reached hT hJ hx hp) hT ?_ hS.2.1 (fun i hi => ?_) (fun i hi => ?_) ?_, h.joined (fun x hx p hp => phi_dist hS hJ (hrg hx).1 (hrg hx).2 hp) (fun x hx p hp => (phi_shape hS (hrg hx).1 (hrg hx).2 hp).2.1.symm) hJ⟩
 ·have := at_pos hv
  unfold hasV
  rw [can_vlen]
  simp [this.2.1, this.2.2]
 ·unfold bad1
  rw [can_vlen, can_len]
  rw [can_len] at hpos
  simp only [Bool.or_eq_false_iff, decide_eq_false_iff_not]
  exact ⟨by omega, h1.2.1, by show ¬ ((vsL f).length : Int) < f.params.length; omega, by omega, by omega⟩
 ·have hi2 : i < (vsL f).length := by rw [← can_vlen]; exact hi
  rw [can_var hi]
  have hh := vs_has hT hJ _ (qh hi2)
  obtain ⟨x, hx, _, hk⟩ := hasV_get hh
  obtain ⟨hx1, hx2⟩ := List.getElem?_eq_some_iff.1 hx
  have hty := hS.2.2.1 _ hx1
  rw [hx2] at hty
  refine ⟨(name_ok (.inl Z) (by omega)).1, by rw [hk]; exact hty.2.1, by rw [hk]; exact hty.2.2.1, fun s hs => ?_⟩
  obtain ⟨c, hc, rfl⟩ := List.mem_map.1 hs
  obtain ⟨j, hj⟩ := List.getElem?_of_mem hc
  rw [List.getElem?_take] at hj
  split at hj
  ·rename_i hji
   rw [qd (by omega)] at hj
   rw [← Option.some.inj hj, can_var]
   exact fun e => by
    have := name_inj (.inl rfl) (by omega) (by omega) e
    omega
  ·cases hj
 ·have hi2 : i < (ord f).length := by rw [← can_len]; exact hi
  unfold NamP
  rw [can_name hi]
  refine ⟨(name_ok (.inr Z) (by omega)).1, fun s hs => ?_⟩
  obtain ⟨c, hc, rfl⟩ := List.mem_map.1 hs
  obtain ⟨j, hj⟩ := List.getElem?_of_mem hc
  rw [List.getElem?_take] at hj
  split at hj
  ·rename_i hji
   rw [qd (by omega)] at hj
   rw [← Option.some.inj hj, can_name]
   exact fun e => by
    have := name_inj (.inr rfl) (by omega) (by omega) e
    omega
  ·cases hj
 ·refine Nat.le_trans ?_ hS.2.2.2.2.1
  unfold sumTo
  rw [blocks_sum (f := f)]
  refine Nat.le_trans (Nat.le_of_eq ?_) (ord_sum hE _)
  congr 1
  apply List.ext_getElem
  ·rw [qk, qk, can_len]
  ·intro i h1 h2
   have hi2 : i < (ord f).length := by rw [qk] at h2; exact h2
   rw [List.getElem_map, List.getElem_map]
   have hb := can_blk (qd hi2)
   rw [qd (by rw [can_len]; exact hi2)] at hb
   rw [Option.some.inj hb]
   have h0 := hrg (qh hi2)
   show ((((blkX f (ord f)[i]).phis.map _).map _).length + ((blkX f (ord f)[i]).insts.map _).length) = _
   rw [qk, qk, qk, qt h0.1]
theorem can_again (hT : typedB f = true) (hJ : JoinP f) : canD (canD f) = canD f := by
 have hS := typedS hT
 have hE := typedE hT
 exact (can_like hT hJ).can fun x hx p hp => phi_dist hS hJ (order_rng hE.grph.toEOk hx).1 (order_rng hE.grph.toEOk hx).2 hp
theorem can_small (hT : typedB f = true) (hJ : JoinP f) (hs : small f) : small (canD f) := by
 have hE := typedE hT
 have hv := vs_len hT hJ
 have hb : (ord f).length ≤ f.blocks.length := order_len hE.grph
 obtain ⟨h1, h2, h3, h4, h5⟩ := hs
 have hS := (typedS hT).1
 unfold bad1 at hS
 simp only [Bool.or_eq_false_iff, decide_eq_false_iff_not] at hS
 refine ⟨by rw [can_vlen]; omega, h2, by rw [can_len]; omega, fun v hv => ?_, fun c hc => ?_⟩
 ·obtain ⟨i, hi, rfl⟩ := List.getElem_of_mem hv
  rw [can_var hi]
  have := (name_ok (c := 118) (.inl rfl) (i := i) (by rw [can_vlen] at hi; omega)).2.2
  show (nameK 118 i).size ≤ 1000
  omega
 ·obtain ⟨i, hi, rfl⟩ := List.getElem_of_mem hc
  have hi2 : i < (ord f).length := by rw [← can_len]; exact hi
  have hb2 := can_blk (qd hi2)
  rw [qd hi] at hb2
  have h0 := order_rng hE.grph.toEOk (qh hi2)
  obtain ⟨g1, g2, g3, g4, g5⟩ := h5 _ (blkX_mem h0.1 h0.2)
  have hn := (name_ok (c := 98) (.inr rfl) (i := i) (by omega)).2.2
  rw [Option.some.inj hb2]
  refine ⟨by show (nameK 98 i).size ≤ 1000; omega, by show ((List.map _ _).map _).length ≤ _; rw [qk, qk]; exact g2, by show (List.map _ _).length ≤ _; rw [qk]; exact g3, fun q hq => ?_, fun z hz => ?_⟩
  ·obtain ⟨q2, hq2, rfl⟩ := List.mem_map.1 hq
   obtain ⟨p, hp, rfl⟩ := List.mem_map.1 hq2
   have : (phPairs (ord f) p).length ≤ (ord f).length := by
    unfold phPairs
    refine Nat.le_trans (List.length_filterMap_le _ _) ?_
    rw [List.length_range]; omega
   show ((List.map _ (List.map _ (phPairs (ord f) p))).length ≤ _) ∧ (List.map _ (phPairs (ord f) p)).length ≤ _
   rw [qk, qk, qk]
   omega
  ·obtain ⟨x, hx, rfl⟩ := List.mem_map.1 hz
   show (List.map _ _).length ≤ _
   rw [qk]; exact g5 x hx
end
end Go.Proofs.YtbkgklpihnfnjaaGreatDoor
