/- What an operation on ranges comes to, by the program. Of int64s. -/
import Derived.Test.YtoicilchhkndmaaGreatDoorJe
import Derived.Test.YtoicilchhkndmaaGreatDoorJd
set_option linter.unusedVariables false
set_option linter.unusedSimpArgs false
set_option linter.unusedSectionVars false
namespace Go.Proofs.YtoicilchhkndmaaGreatDoor
open Go.Proofs.Tryz
open Go.Proofs Go.Lib Go.Shelf Go.RowKit
set_option maxRecDepth 20000
variable {E : World}
theorem sum_take {α : Type} (g : α → Nat) : ∀ (l : List α) (k : Nat), ((l.take k).map g).sum ≤ (l.map g).sum
 | [], k => by simp
 | x :: l, 0 => by simp
 | x :: l, k + 1 => by
  have := sum_take g l k
  simp only [List.take_succ_cons, List.map_cons, List.sum_cons]; omega
theorem wP_take (l : List PPhi) (k : Nat) : wP (l.take k) ≤ wP l := sum_take _ l k
theorem wX_take (l : List PInst) (k : Nat) : wX (l.take k) ≤ wX l := sum_take _ l k
theorem little_le {f : PFunc} (h : little f) {k : Nat} (hk : k < f.blocks.length) : wV f.vars + wBs (f.blocks.take k) + wB f.blocks[k] ≤ 4000 := by
 have h1 := h.2.2.2.2.2 (fun e => by rw [e] at hk; exact absurd hk (Nat.not_lt_zero _))
 have h2 : wBs (f.blocks.take (k + 1)) ≤ wBs f.blocks := sum_take _ f.blocks (k + 1)
 rw [wBs_succ hk] at h2
 omega
set_option maxHeartbeats 8000000 in
theorem fewIff_spec (f : PFunc) (hf : wFunc f) : ACall prog E 5 [.agg (encF f)] [] (fun x _ => ∃ b : Bool, x = .bool b ∧ (b = true ↔ little f)) := by
 obtain ⟨hf1, hf2, hf3, hf4⟩ := hf
 have hl1 := hf1.lt
 have hl3 := hf3.lt
 refine zn func5 Z (by decide) Z<|zSr<|zz (cs := _) Z Z Z<|zVzAb Z<|z6<|zc<|zc<|AWP.cutS (γ := Unit) [1] (fun u => [(27, .bool (few1 f))]) (fun u => []) (fun u => True) ?_ (fun _ _ h => h) ?_
 ·refine zRg<|zVzFF jd Z Y5 Z Z<|zVzLf isAgg22 Z<|zVGvlenM jz Z<|z7 (q0 Z Z)<|zVzMb Z<|zx (s := 16) Z (fun c1=>?_) (fun c1=>?_)
  ·refine z8 Z Z c1<|z8 Z Z c1<|z8 Z Z c1<|z8 Z Z c1<|zVzPt Z c1 Z<|zVzMb Z<|z8 Z Z Z<|z8 Z Z Z<|z8 Z Z Z<|z8 Z Z Z<|zVzPt Z Z Z<|z6 ?_
   exact ⟨(), zR1, ⟨jb (by simp_all [few1] <;> grind), trivial⟩, zLe, trivial⟩
  ·refine za Z Z c1<|zVzFF jd Z Zm Z Z<|za Z Z c1<|zVzLf Y4 Z<|za Z Z c1<|zVGvlenM js Z<|za Z Z c1<|z7 (q0 Z Z)<|zVzPf Z c1 Z<|zVzMb Z<|zx (s := 22) Z (fun c2=>?_) (fun c2=>?_)
   ·refine z8 Z Z c2<|z8 Z Z c2<|z8 Z Z c2<|z8 Z Z c2<|zVzPt Z c2 Z<|z6 ?_
    exact ⟨(), zR1, ⟨jb (by simp_all [few1] <;> grind), trivial⟩, zLe, trivial⟩
   ·refine za Z Z c2<|zVzFF jd Z ju Z Z<|za Z Z c2<|zVzLf Z1 Z<|za Z Z c2<|zVGvlenM ja Z<|za Z Z c2<|z7 (q0 Z Z)<|zVzPf Z c2 Z<|z6 ?_
    exact ⟨(), zR1, ⟨jb (by simp_all [few1] <;> grind), trivial⟩, zLe, trivial⟩
 ·rintro _ _
  refine yb Z (fun c1=>?_) (fun c1=>?_)
  ·refine zSr<|zVzAb Z<|z6<|ze<|zk (x := .bool _) Z ?_
   exact ⟨_, rfl, fun h => (by cases h), fun hl => absurd hl (fun hl => by have h1 := hl.1; have h2 := hl.2.1; have h3 := hl.2.2.1; unfold few1 at c1; simp at c1; omega)⟩
  ·have hsz : f.vars.length ≤ 100 ∧ f.blocks.length ≤ 40 ∧ f.params.length ≤ 20 := by unfold few1 at c1; simp at c1; omega
   refine zj<|zSr<|zVzAi Z<|z6<|zc<|zSr<|zVzFF jd Z Y5 Z Z<|zVzLf isAgg22 Z<|zVGvlenM jz Z<|zVzMi Z<|z6<|zi<|yg (γ := Nat) [1, 29, 30] (fun k => [(31, .int .i64 k), (3, .int .i64 (wV (f.vars.take k)))]) (fun k => []) (fun k => k ≤ f.vars.length ∧ wV (f.vars.take k) ≤ 400 * k ∧ ∀ v ∈ f.vars.take k, v.name.size ≤ 400) (fun k => f.vars.length - k) 0 zR2 zLe (⟨q5 _, Nat.le_refl _, by simp⟩) ?_
   rintro k ⟨hk, hw, hv⟩
   refine zSr<|zVGvlss Z Z<|z6<|zc<|y9 Z (fun ck=>?_) (fun ck=>?_)
   ·have hk1 : k < f.vars.length := by omega
    have hs := wV_succ hk1
    refine zj<|zc<|zi<|zSr<|z7 (Gv.idxM jz Zs Z Z Z (q3 (by omega)))<|zVGvloadWF isAgg54 Zs Z Z<|zo (cs := [.str ⟨#[]⟩, .int .i64 0]) zeroValue54 Z Z<|fun i5 => zg Zs Z Z Z Z Z Z .head Z<|z6<|zc<|zSr<|z7 (zf Zh Z Zt (by decide) Z Z)<|z7 (zt (c := .str _) Y2 Z ⟨_, .head⟩ Z)<|z7 (Gv.lenT jr Z)<|z7 (q0 Z Z)<|z6<|y9 Z (fun cn=>?_) (fun cn=>?_)
    ·refine zSr<|zVzAb Z<|z6<|ze<|zk (x := .bool _) Z ?_
     exact ⟨_, rfl, fun h => (by cases h), fun hl => absurd hl (fun hl => by have h1 := hl.2.2.2.1 _ (q6 hk1); omega)⟩
    ·refine zj<|zRg<|zVzMi Z<|z7 (zf Zh Z Zt (by decide) Z Z)<|z7 (zt (c := .str _) Y2 Z ⟨_, .head⟩ Z)<|z7 (Gv.lenT jr Z)<|zVzAd Z Z<|zVzAi Z<|z6<|zRg<|zVzAd Z Z<|zVzMi Z<|z6 ?_
     exact ⟨k + 1, zR3, ⟨rfl, congrArg (AV.int .i64) (by rw [hs]; omega), trivial⟩, ⟨_, (.drop (.refl _)), rfl⟩, ⟨hk1, by omega, forall_take hk1 hv (by omega)⟩, by omega⟩
   ·obtain rfl : k = f.vars.length := by omega
    rw [q7] at hw hv
    rw [q7]
    refine yf<|zc<|zSr<|zVzFF jd Z Zm Z Z<|zVzLf Y4 Z<|zVGvlenM js Z<|zVzMi Z<|z6<|zi<|yg (γ := Nat) [46, 47] (fun k => [(48, .int .i64 k), (3, .int .i64 (wV f.vars + wBs (f.blocks.take k) : Nat))]) (fun k => []) (fun k => k ≤ f.blocks.length ∧ (0 < k → wV f.vars + wBs (f.blocks.take k) ≤ 4000) ∧ wBs (f.blocks.take k) ≤ 4000 ∧ ∀ b ∈ f.blocks.take k, littleB b) (fun k => f.blocks.length - k) 0 zR2 zLe (⟨q5 _, by omega, by simp [wBs], by simp⟩) ?_
    rintro k ⟨hk, hw2, hw3, hb⟩
    refine zSr<|zVGvlss Z Z<|z6<|zc<|y9 Z (fun ck=>?_) (fun ck=>?_)
    ·have hk1 : k < f.blocks.length := by omega
     obtain ⟨hb1, hb2, hb3, hb4⟩ := hf4 _ (q6 hk1)
     have hs := wBs_succ hk1
     refine zj<|zc<|zi<|zSr<|z7 (Gv.idxM js Z3 Z Z Z (q3 (by omega)))<|zVGvloadWF isAgg62 Z3 Z Z<|zo (cs := [.str ⟨#[]⟩, .raw (.slice none 0 0), .raw (.slice none 0 0), .int .i64 0, .int .i64 0, .int .i64 0, .int .i64 0]) Zl Z Z<|fun i7 => zg Z3 Z Z Z Z Z Z .head Z<|z6<|zc<|zc<|AWP.cutS (γ := Unit) [3, 7, 46, 47, 48] (fun u => [(67, .bool (few2 f.blocks[k]))]) (fun u => [(i7, .cells 62 (encBlk f.blocks[k]))]) (fun u => True) ?_ (fun _ _ h => h) ?_
     ·refine zRg<|z7 (zf j9 Z Zt (by decide) Z Z)<|z7 (zt (c := .str _) Y2 Z ⟨_, .head⟩ Z)<|z7 (Gv.lenT jr Z)<|z7 (q0 Z Z)<|zVzMb Z<|zx (s := 56) Z (fun c3=>?_) (fun c3=>?_)
      ·refine z8 Z Z c3<|z8 Z Z c3<|z8 Z Z c3<|z8 Z Z c3<|zVzPt Z c3 Z<|zVzMb Z<|z8 Z Z Z<|z8 Z Z Z<|z8 Z Z Z<|z8 Z Z Z<|zVzPt Z Z Z<|z6 ?_
       exact ⟨(), ⟨rfl, rfl, rfl, rfl, rfl, trivial⟩, ⟨jb (by simp_all [few2] <;> grind), trivial⟩, zLe, trivial⟩
      ·refine za Z Z c3<|z7 (zf j9 Z Zq (by decide) Z Z)<|za Z Z c3<|z7 (zt (c := .fro _ _) isAgg55 Z ⟨_, .head⟩ Z)<|za Z Z c3<|zVGvlenM jw Z<|za Z Z c3<|z7 (q0 Z Z)<|zVzPf Z c3 Z<|zVzMb Z<|zx (s := 62) Z (fun c4=>?_) (fun c4=>?_)
       ·refine z8 Z Z c4<|z8 Z Z c4<|z8 Z Z c4<|z8 Z Z c4<|zVzPt Z c4 Z<|z6 ?_
        exact ⟨(), ⟨rfl, rfl, rfl, rfl, rfl, trivial⟩, ⟨jb (by simp_all [few2] <;> grind), trivial⟩, zLe, trivial⟩
       ·refine za Z Z c4<|z7 (zf j9 Z Zr (by decide) Z Z)<|za Z Z c4<|z7 (zt (c := .fro _ _) isAgg56 Z ⟨_, .head⟩ Z)<|za Z Z c4<|zVGvlenM jx Z<|za Z Z c4<|z7 (q0 Z Z)<|zVzPf Z c4 Z<|z6 ?_
        exact ⟨(), ⟨rfl, rfl, rfl, rfl, rfl, trivial⟩, ⟨jb (by simp_all [few2] <;> grind), trivial⟩, zLe, trivial⟩
     ·rintro _ _
      refine yb Z (fun c2=>?_) (fun c2=>?_)
      ·refine zSr<|zVzAb Z<|z6<|ze<|zk (x := .bool _) Z ?_
       exact ⟨_, rfl, fun h => (by cases h), fun hl => absurd hl (fun hl => by obtain ⟨h1, h2, h3, _⟩ := hl.2.2.2.2.1 _ (q6 hk1); unfold few2 at c2; simp at c2; omega)⟩
      ·have hsb : f.blocks[k].name.size ≤ 400 ∧ f.blocks[k].phis.length ≤ 400 ∧ f.blocks[k].insts.length ≤ 400 := by unfold few2 at c2; simp at c2; omega
       refine zj<|zSr<|zVzMi Z<|z7 (zf j9 Z Zt (by decide) Z Z)<|z7 (zt (c := .str _) Y2 Z ⟨_, .head⟩ Z)<|z7 (Gv.lenT jr Z)<|z7 (zf j9 Z Zq (by decide) Z Z)<|z7 (zt (c := .fro _ _) isAgg55 Z ⟨_, .head⟩ Z)<|zVGvlenM jw Z<|z7 (zf j9 Z Zr (by decide) Z Z)<|z7 (zt (c := .fro _ _) isAgg56 Z ⟨_, .head⟩ Z)<|zVGvlenM jx Z<|zVzAd Z Z<|z7 (Gv.mul Z Z (by unfold I64; omega))<|zVzAd Z Z<|zVzAd Z Z<|zVzAi Z<|z6<|zc<|zSr<|z7 (zf j9 Z Zq (by decide) Z Z)<|z7 (zt (c := .fro _ _) isAgg55 Z ⟨_, .head⟩ Z)<|zVGvlenM jw Z<|zVzMi Z<|z6<|zi<|yg (γ := Nat) [7, 46, 47, 48, 83, 84] (fun m => [(85, .int .i64 m), (3, .int .i64 (wV f.vars + wBs (f.blocks.take k) + (f.blocks[k].name.size + 10 * (f.blocks[k].phis.length + f.blocks[k].insts.length)) + wP (f.blocks[k].phis.take m) : Nat))]) (fun m => [(i7, .cells 62 (encBlk f.blocks[k]))]) (fun m => m ≤ f.blocks[k].phis.length ∧ wP (f.blocks[k].phis.take m) ≤ 800 * m ∧ ∀ p ∈ f.blocks[k].phis.take m, p.args.length ≤ 400 ∧ p.from_.length ≤ 400) (fun m => f.blocks[k].phis.length - m) 0 ⟨Z, (congrArg (AV.int .i64) (by simp [wP] <;> omega)), trivial⟩ zLe (⟨q5 _, by simp [wP], by simp⟩) ?_
       rintro m ⟨hm, hwp, hp⟩
       refine zSr<|zVGvlss Z Z<|z6<|zc<|y9 Z (fun cm=>?_) (fun cm=>?_)
       ·have hm1 : m < f.blocks[k].phis.length := by omega
        obtain ⟨hq1, hq2⟩ := hb3 _ (q6 hm1)
        have hl6 := hq1.lt
        have hl7 := hq2.lt
        have hs2 := wP_succ hm1
        refine zj<|zc<|zi<|zSr<|z7 (Gv.idxM jw Z8 Z Z Z (q3 (by omega)))<|zVGvloadWF isAgg64 Z8 Z Z<|zo (cs := [.int .i64 0, .raw (.slice none 0 0), .raw (.slice none 0 0)]) Y1 Z Z<|fun i9 => zg Z8 Z Z Z Z Z Z .head Z<|z6<|zc<|zc<|AWP.cutS (γ := Unit) [3, 7, 9, 46, 47, 48, 83, 84, 85] (fun u => [(102, .bool (decide ((4000 : Int) < (wV f.vars + wBs (f.blocks.take k) + (f.blocks[k].name.size + 10 * (f.blocks[k].phis.length + f.blocks[k].insts.length)) + wP (f.blocks[k].phis.take m) : Nat)) || (decide ((400 : Int) < f.blocks[k].phis[m].args.length) || decide ((400 : Int) < f.blocks[k].phis[m].from_.length))))]) (fun u => [(i9, .cells 64 (encPhi f.blocks[k].phis[m])), (i7, .cells 62 (encBlk f.blocks[k]))]) (fun u => True) ?_ (fun _ _ h => h) ?_
        ·refine zRg<|zVzMi Z<|z7 (q0 Z Z)<|zVzMb Z<|zx (s := 91) Z (fun c5=>?_) (fun c5=>?_)
         ·refine z8 Z Z c5<|z8 Z Z c5<|z8 Z Z c5<|z8 Z Z c5<|zVzPt Z c5 Z<|zVzMb Z<|z8 Z Z Z<|z8 Z Z Z<|z8 Z Z Z<|z8 Z Z Z<|zVzPt Z Z Z<|z6 ?_
          exact ⟨(), ⟨rfl, rfl, rfl, rfl, rfl, rfl, rfl, rfl, rfl, trivial⟩, ⟨jb (by simp_all <;> grind), trivial⟩, zLe, trivial⟩
         ·refine za Z Z c5<|z7 (zf jq Z ju (by decide) Z Z)<|za Z Z c5<|z7 (zt (c := .fro _ _) Z1 Z ⟨_, .head⟩ Z)<|za Z Z c5<|zVGvlenM ja Z<|za Z Z c5<|z7 (q0 Z Z)<|zVzPf Z c5 Z<|zVzMb Z<|zx (s := 97) Z (fun c6=>?_) (fun c6=>?_)
          ·refine z8 Z Z c6<|z8 Z Z c6<|z8 Z Z c6<|z8 Z Z c6<|zVzPt Z c6 Z<|z6 ?_
           exact ⟨(), ⟨rfl, rfl, rfl, rfl, rfl, rfl, rfl, rfl, rfl, trivial⟩, ⟨jb (by simp_all <;> grind), trivial⟩, zLe, trivial⟩
          ·refine za Z Z c6<|z7 (zf jq Z ju (by decide) Z Z)<|za Z Z c6<|z7 (zt (c := .fro _ _) Z1 Z ⟨_, .head⟩ Z)<|za Z Z c6<|zVGvlenM ja Z<|za Z Z c6<|z7 (q0 Z Z)<|zVzPf Z c6 Z<|z6 ?_
           exact ⟨(), ⟨rfl, rfl, rfl, rfl, rfl, rfl, rfl, rfl, rfl, trivial⟩, ⟨jb (by simp_all <;> grind), trivial⟩, zLe, trivial⟩
        ·rintro _ _
         refine yb Z (fun cp=>?_) (fun cp=>?_)
         ·refine zSr<|zVzAb Z<|z6<|ze<|zk (x := .bool _) Z ?_
          exact ⟨_, rfl, fun h => (by cases h), fun hl => absurd hl (fun hl => by obtain ⟨_, _, _, h4, _⟩ := hl.2.2.2.2.1 _ (q6 hk1); have h5 := h4 _ (q6 hm1); have h9 := little_le hl hk1; have hwb : wB f.blocks[k] = f.blocks[k].name.size + 10 * (f.blocks[k].phis.length + f.blocks[k].insts.length) + wP f.blocks[k].phis + wX f.blocks[k].insts := rfl; have h10 := wP_take f.blocks[k].phis m; simp only [Bool.or_eq_true, decide_eq_true_eq] at cp; omega)⟩
         ·rcases Bool.or_eq_false_iff.1 cp with ⟨a1, a2⟩
          rcases Bool.or_eq_false_iff.1 a2 with ⟨a3, a4⟩
          have a3 := of_decide_eq_false a3
          have a4 := of_decide_eq_false a4
          refine zj<|zRg<|zVzMi Z<|z7 (zf jq Z ju (by decide) Z Z)<|z7 (zt (c := .fro _ _) Z1 Z ⟨_, .head⟩ Z)<|zVGvlenM ja Z<|z7 (zf jq Z ju (by decide) Z Z)<|z7 (zt (c := .fro _ _) Z1 Z ⟨_, .head⟩ Z)<|zVGvlenM ja Z<|zVzAd Z Z<|zVzAd Z Z<|zVzAi Z<|z6<|zRg<|zVzAd Z Z<|zVzMi Z<|z6 ?_
          exact ⟨m + 1, ⟨rfl, rfl, rfl, rfl, rfl, rfl, trivial⟩, ⟨rfl, congrArg (AV.int .i64) (by rw [hs2]; omega), trivial⟩, ⟨_, (.drop (.refl _)), rfl⟩, ⟨hm1, by omega, forall_take hm1 hp ⟨by omega, by omega⟩⟩, by omega⟩
       ·obtain rfl : m = f.blocks[k].phis.length := by omega
        rw [q7] at hwp hp
        rw [q7]
        refine yf<|zc<|zSr<|z7 (zf j9 Z Zr (by decide) Z Z)<|z7 (zt (c := .fro _ _) isAgg56 Z ⟨_, .head⟩ Z)<|zVGvlenM jx Z<|zVzMi Z<|z6<|zi<|yg (γ := Nat) [46, 47, 48, 114, 115] (fun m => [(116, .int .i64 m), (3, .int .i64 (wV f.vars + wBs (f.blocks.take k) + (f.blocks[k].name.size + 10 * (f.blocks[k].phis.length + f.blocks[k].insts.length)) + wP f.blocks[k].phis + wX (f.blocks[k].insts.take m) : Nat))]) (fun m => [(i7, .cells 62 (encBlk f.blocks[k]))]) (fun m => m ≤ f.blocks[k].insts.length ∧ wX (f.blocks[k].insts.take m) ≤ 400 * m ∧ ∀ p ∈ f.blocks[k].insts.take m, p.args.length ≤ 400) (fun m => f.blocks[k].insts.length - m) 0 ⟨Z, (congrArg (AV.int .i64) (by simp [wX] <;> omega)), trivial⟩ zLe (⟨q5 _, by simp [wX], by simp⟩) ?_
        rintro m ⟨hm, hwx, hx⟩
        refine zSr<|zVGvlss Z Z<|z6<|zc<|y9 Z (fun cm=>?_) (fun cm=>?_)
        ·have hm1 : m < f.blocks[k].insts.length := by omega
         have hq1 := hb4 _ (q6 hm1)
         have hl6 := hq1.lt
         have hs2 := wX_succ hm1
         refine zj<|zc<|zi<|zSr<|z7 (Gv.idxM jx Z9 Z Z Z (q3 (by omega)))<|zVGvloadWF isAgg67 Z9 Z Z<|zo (cs := [.int .i64 0, .int .i64 0, .raw (.slice none 0 0), .int .i64 0]) zeroValue67 Z Z<|fun i11 => zg Z9 Z Z Z Z Z Z .head Z<|z6<|zc<|zc<|AWP.cutS (γ := Unit) [3, 11, 46, 47, 48, 114, 115, 116] (fun u => [(127, .bool (decide ((4000 : Int) < (wV f.vars + wBs (f.blocks.take k) + (f.blocks[k].name.size + 10 * (f.blocks[k].phis.length + f.blocks[k].insts.length)) + wP f.blocks[k].phis + wX (f.blocks[k].insts.take m) : Nat)) || decide ((400 : Int) < f.blocks[k].insts[m].args.length)))]) (fun u => [(i11, .cells 67 (encInst f.blocks[k].insts[m])), (i7, .cells 62 (encBlk f.blocks[k]))]) (fun u => True) ?_ (fun _ _ h => h) ?_
         ·refine zRg<|zVzMi Z<|z7 (q0 Z Z)<|zVzMb Z<|zx (s := 122) Z (fun c7=>?_) (fun c7=>?_)
          ·refine z8 Z Z c7<|z8 Z Z c7<|z8 Z Z c7<|z8 Z Z c7<|zVzPt Z c7 Z<|z6 ?_
           exact ⟨(), ⟨rfl, rfl, rfl, rfl, rfl, rfl, rfl, rfl, trivial⟩, ⟨jb (by simp_all <;> grind), trivial⟩, zLe, trivial⟩
          ·refine za Z Z c7<|z7 (zf j2 Z ju (by decide) Z Z)<|za Z Z c7<|z7 (zt (c := .fro _ _) Z1 Z ⟨_, .head⟩ Z)<|za Z Z c7<|zVGvlenM ja Z<|za Z Z c7<|z7 (q0 Z Z)<|zVzPf Z c7 Z<|z6 ?_
           exact ⟨(), ⟨rfl, rfl, rfl, rfl, rfl, rfl, rfl, rfl, trivial⟩, ⟨jb (by simp_all <;> grind), trivial⟩, zLe, trivial⟩
         ·rintro _ _
          refine yb Z (fun cp=>?_) (fun cp=>?_)
          ·refine zSr<|zVzAb Z<|z6<|ze<|zk (x := .bool _) Z ?_
           exact ⟨_, rfl, fun h => (by cases h), fun hl => absurd hl (fun hl => by obtain ⟨_, _, _, _, h4⟩ := hl.2.2.2.2.1 _ (q6 hk1); have h5 := h4 _ (q6 hm1); have h9 := little_le hl hk1; have hwb : wB f.blocks[k] = f.blocks[k].name.size + 10 * (f.blocks[k].phis.length + f.blocks[k].insts.length) + wP f.blocks[k].phis + wX f.blocks[k].insts := rfl; have h10 := wX_take f.blocks[k].insts m; simp only [Bool.or_eq_true, decide_eq_true_eq] at cp; omega)⟩
          ·rcases Bool.or_eq_false_iff.1 cp with ⟨a1, a2⟩
           have a2 := of_decide_eq_false a2
           refine zj<|zRg<|zVzMi Z<|z7 (zf j2 Z ju (by decide) Z Z)<|z7 (zt (c := .fro _ _) Z1 Z ⟨_, .head⟩ Z)<|zVGvlenM ja Z<|zVzAd Z Z<|zVzAi Z<|z6<|zRg<|zVzAd Z Z<|zVzMi Z<|z6 ?_
           exact ⟨m + 1, ⟨rfl, rfl, rfl, rfl, rfl, trivial⟩, ⟨rfl, congrArg (AV.int .i64) (by rw [hs2]; omega), trivial⟩, ⟨_, (.drop (.refl _)), rfl⟩, ⟨hm1, by omega, forall_take hm1 hx (by omega)⟩, by omega⟩
        ·obtain rfl : m = f.blocks[k].insts.length := by omega
         rw [q7] at hwx hx
         rw [q7]
         refine yf<|zSr<|zVzMi Z<|z7 (q0 Z Z)<|z6<|y9 Z (fun cz=>?_) (fun cz=>?_)
         ·refine zSr<|zVzAb Z<|z6<|ze<|zk (x := .bool _) Z ?_
          exact ⟨_, rfl, fun h => (by cases h), fun hl => absurd hl (fun hl => by have h9 := little_le hl hk1; have hwb : wB f.blocks[k] = f.blocks[k].name.size + 10 * (f.blocks[k].phis.length + f.blocks[k].insts.length) + wP f.blocks[k].phis + wX f.blocks[k].insts := rfl; omega)⟩
         ·have hwb : wB f.blocks[k] = f.blocks[k].name.size + 10 * (f.blocks[k].phis.length + f.blocks[k].insts.length) + wP f.blocks[k].phis + wX f.blocks[k].insts := rfl
          refine zj<|zRg<|zVzAd Z Z<|zVzMi Z<|z6 ?_
          exact ⟨k + 1, zR2, ⟨rfl, congrArg (AV.int .i64) (by rw [hs]; omega), trivial⟩, ⟨_, (.drop (.refl _)), rfl⟩, ⟨hk1, by omega, by omega, forall_take hk1 hb ⟨hsb.1, hsb.2.1, hsb.2.2, hp, hx⟩⟩, by omega⟩
    ·obtain rfl : k = f.blocks.length := by omega
     rw [q7] at hw2 hw3 hb
     refine yf<|zSr<|zVzAb Z<|z6<|ze<|zk (x := .bool _) Z ?_
     exact ⟨_, rfl, fun _ => ⟨hsz.1, hsz.2.1, hsz.2.2, hv, hb, fun hne => hw2 (List.length_pos_iff.2 hne)⟩, fun _ => rfl⟩
noncomputable def fewB (f : PFunc) : Bool := @decide (little f) (Classical.propDecidable _)
theorem fewB_iff (f : PFunc) : fewB f = true ↔ little f := by unfold fewB; exact @decide_eq_true_iff _ (Classical.propDecidable _)
theorem fewT_spec (f : PFunc) (hf : wFunc f) : AFun prog E 5 [.agg (encF f)] (.bool (fewB f)) :=
 (fewIff_spec f hf).mono fun x O' ⟨b, e, h⟩ => by
  rw [e]
  congr 1
  rw [Bool.eq_iff_iff, h, fewB_iff]
end Go.Proofs.YtoicilchhkndmaaGreatDoor
namespace Go.Proofs.YtoicilchhkndmaaGreatDoor
open Go.Proofs.Tryz
end Go.Proofs.YtoicilchhkndmaaGreatDoor
namespace Go.Proofs.YtoicilchhkndmaaGreatDoor
open Go.Proofs.Tryz
open Go.Proofs Go.Lib Go.Shelf Go.RowKit
variable {E : World}
set_option maxRecDepth 20000
theorem indexZ_spec (xs : List Int) (v : Int) (hl : xs.length ≤ 281474976710656) : AFun prog E 82 [.fro 1 (xs.map encI), .int .i64 v] (.int .i64 (firstI (fun x => decide (v = x)) xs 0)) := by
 refine zn func82 Z (by decide) Z<|zSr<|zVzAi Z<|z6<|zc<|zSr<|zVzMf Z<|zVGvlenM ja Z<|zVzMi Z<|z6<|zi<|yg (γ := Nat) [0, 1, 7] (fun k => [(8, .int .i64 k)]) (fun k => []) (fun k => k ≤ xs.length ∧ (xs.take k).all (fun x => !decide (v = x))) (fun k => xs.length - k) 0 zR1 zLe (⟨q5 _, Z⟩) ?_
 rintro k ⟨hk, hall⟩
 refine zSr<|zVGvlss Z Z<|z6<|zc<|y9 Z (fun ck=>?_) (fun ck=>?_)
 ·have hk2 : k < xs.length := by simp at ck; omega
  refine zj<|zc<|zi<|zSr<|zVzMi Z<|zVzAi Z<|z6<|zSr<|zVzMi Z<|zVzMf Z<|zVzMi Z<|z7 (zIM k ja j6 Z Z Z (q3 hk2))<|zVzLi je Z<|zVGveqlI Z Z<|z6<|yb Z (fun cp=>?_) (fun cp=>?_)
  ·refine zSr<|zVzMi Z<|zVzAi Z<|z6<|ze<|zk (x := .int _ _) Z ?_
   rw [firstI_drop _ xs k hk hall, List.drop_eq_getElem_cons hk2, firstI, if_pos (by simpa using cp)]
  ·refine zj<|zRg<|zVzAd Z Z<|zVzMi Z<|z6 ?_
   exact ⟨k + 1, zR3, zR1, zLe, ⟨hk2, by rw [q4 hk2, List.all_append, hall]; simpa using cp⟩, by omega⟩
 ·have hkn : k = xs.length := by simp at ck; omega
  refine yf<|zSr<|zVzAi Z<|z6<|ze<|zk (x := .int _ _) Z ?_
  rw [firstI_drop _ xs k hk hall, hkn, List.drop_length, firstI]
theorem chkOp_spec (op : Int) : AFun prog E 44 [.int .i64 op] (.bool (decide (18 ≤ op) && decide (op ≤ 24))) := by
 refine zn func44 Z (by decide) Z<|zSr<|zVzAb Z<|z6<|zSr<|zVzMi Z<|z7 (Gv.geq Z Z)<|zVzMb Z<|zx (s := 5) Z (fun c1=>?_) (fun c1=>?_)
 ·refine za Z Z c1<|zVzMi Z<|za Z Z c1<|z7 (Gv.leq Z Z)<|zVzPt Z c1 Z<|zVzAb Z<|z6<|ze<|zk (x := .bool _) Z ?_
  exact jb (by simp_all <;> omega)
 ·refine z8 Z Z c1<|z8 Z Z c1<|zVzPf Z c1 Z<|zVzAb Z<|z6<|ze<|zk (x := .bool _) Z ?_
  exact jb (by simp_all <;> omega)
end Go.Proofs.YtoicilchhkndmaaGreatDoor
namespace Go.Proofs.YtoicilchhkndmaaGreatDoor
open Go.Proofs.Tryz
open Go.Proofs Go.Lib Go.Shelf Go.RowKit
variable {E : World}
set_option maxRecDepth 20000
end Go.Proofs.YtoicilchhkndmaaGreatDoor
namespace Go.Proofs.YtoicilchhkndmaaGreatDoor
open Go.Proofs.Tryz
open Go.Proofs Go.Lib Go.Shelf Go.RowKit
variable {E : World}
set_option maxRecDepth 20000
end Go.Proofs.YtoicilchhkndmaaGreatDoor
namespace Go.Proofs.YtoicilchhkndmaaGreatDoor
open Go.Proofs.Tryz
open Go.Proofs
variable {E : World}
set_option maxRecDepth 20000
theorem aAdd {x y : Int} (hx : is64 x) (hy : is64 y) : AFun prog E 137 [.int .i64 x, .int .i64 y] (.tup [.int .i64 (IntKind.i64.wrap (x + y)), .bool (decide (fit3 0 x y))]) := by
 rw [← sumB hx hy]
 refine zn func137 Z (by decide) Z<|zSr<|zVzAi Z<|zVzAb Z<|z6<|zSr<|zVzMi Z<|zVzMi Z<|z7 (Gv.addW Z Z)<|zVzAi Z<|z6<|zSr<|zVzMi Z<|zVzMi Z<|zVGvlss Z Z<|zVzMi Z<|zVGvlss Z Z<|z7 (Gv.neqB Zc Z Z)<|zVzMb Z<|zx (s := 16) Z (fun c1=>?_) (fun c1=>?_)
 ·refine z8 Z Z c1<|z8 Z Z c1<|z8 Z Z c1<|z8 Z Z c1<|z8 Z Z c1<|zVzPt Z c1 Z<|zVzAi Z<|zVzAb Z<|z6<|ze<|yh (x := .int _ _) (y := .bool _) Z Z ?_
  simp_all
 ·refine za Z Z c1<|zVzMi Z<|za Z Z c1<|zVGvlss Z Z<|za Z Z c1<|zVzMi Z<|za Z Z c1<|zVGvlss Z Z<|za Z Z c1<|z7 (Gv.eqlB Zc Z Z)<|zVzPf Z c1 Z<|zVzAi Z<|zVzAb Z<|z6<|ze<|yh (x := .int _ _) (y := .bool _) Z Z ?_
  simp_all
theorem aSub {x y : Int} (hx : is64 x) (hy : is64 y) : AFun prog E 138 [.int .i64 x, .int .i64 y] (.tup [.int .i64 (IntKind.i64.wrap (x - y)), .bool (decide (fit3 1 x y))]) := by
 rw [← subB hx hy]
 refine zn func138 Z (by decide) Z<|zSr<|zVzAi Z<|zVzAb Z<|z6<|zSr<|zVzMi Z<|zVzMi Z<|z7 (Gv.subW Z Z)<|zVzAi Z<|z6<|zSr<|zVzMi Z<|zVzMi Z<|zVGvlss Z Z<|zVzMi Z<|zVGvlss Z Z<|z7 (Gv.eqlB Zc Z Z)<|zVzMb Z<|zx (s := 16) Z (fun c2=>?_) (fun c2=>?_)
 ·refine z8 Z Z c2<|z8 Z Z c2<|z8 Z Z c2<|z8 Z Z c2<|z8 Z Z c2<|zVzPt Z c2 Z<|zVzAi Z<|zVzAb Z<|z6<|ze<|yh (x := .int _ _) (y := .bool _) Z Z ?_
  simp_all
 ·refine za Z Z c2<|zVzMi Z<|za Z Z c2<|zVGvlss Z Z<|za Z Z c2<|zVzMi Z<|za Z Z c2<|zVGvlss Z Z<|za Z Z c2<|z7 (Gv.eqlB Zc Z Z)<|zVzPf Z c2 Z<|zVzAi Z<|zVzAb Z<|z6<|ze<|yh (x := .int _ _) (y := .bool _) Z Z ?_
  simp_all
theorem aAbs {x : Int} (hx : is64 x) : AFun prog E 153 [.int .i64 x] (.int .u64 (x.natAbs : Int)) := by
 rw [← abs_wrap hx]
 refine zn func153 Z (by decide) Z<|zSr<|zVzAi Z<|z6<|zc<|zSr<|zVzMi Z<|zVGvlss Z Z<|z6<|y9 Z (fun c=>?_) (fun c=>?_)
 ·refine zSr<|zVzMi Z<|z7 (Gv.conv underlying2 Zw Z)<|z7 (Gv.neg Z)<|zVzAi Z<|z6<|ze<|zk (x := .int _ _) Z ?_
  rw [if_pos c]; try rfl
 ·refine zj<|zSr<|zVzMi Z<|z7 (Gv.conv underlying2 Zw Z)<|zVzAi Z<|z6<|ze<|zk (x := .int _ _) Z ?_
  rw [if_neg c]; try rfl
end Go.Proofs.YtoicilchhkndmaaGreatDoor
namespace Go.Proofs.YtoicilchhkndmaaGreatDoor
open Go.Proofs.Tryz
open Go.Proofs
variable {E : World}
set_option maxRecDepth 20000
end Go.Proofs.YtoicilchhkndmaaGreatDoor
namespace Go.Proofs.YtoicilchhkndmaaGreatDoor
open Go.Proofs.Tryz
def AAnyR (P : Program) (E : World) (l : List Oper) (Q : AEnv → OL → Prop) (fuel : Nat) (listed : Array Bool) (env : AEnv) (R Om : OL) : Prop :=
 ∀ I F ρ w Lr, RepE I env ρ → RepOs I R Lr → SLA I Om (Lr ++ F) E w → AnyV P l.toArray (stays I.k Lr E) (stays I.k Lr E) (fun _ => false) (postK I F E Q) fuel listed ρ w
section
variable {E : World} {P : Program} {n : Nat} {l : List Oper} {Q : AEnv → OL → Prop} {fuel : Nat} {listed : Array Bool} {env : AEnv} {O R Om : OL}
variable {d ty : Nat} {op : Op} {pos : String} {af : Array Edge}
theorem AWP.regionDrawR {Q : Exit → AEnv → OL → Prop} {id : Nat} (hm : P.follows .mixedOrders = true) (hd : dstsOk n l = true) (hO : O.Perm (Om ++ R)) (h : AAnyR P E l (Q .normal) l.length (Array.replicate l.length false) env R Om) : AWP P E n (.region id l.toArray true) Q env O := fun I F ρ w h1 h2 => by
 obtain ⟨Lr, hLr, h3⟩ := h2.split hO
 refine WP.regionDraw (stays I.k Lr E) (stays I.k Lr E) (fun _ => false) hm hd fun w' hw => ?_
 subst hw
 refine h I F ρ _ Lr h1 hLr ?_
 obtain ⟨ht, L, hL, hS⟩ := h3
 exact ⟨ht, L, hL, hS.drew⟩
theorem AAnyR.takeK {i : Nat} {x : AV} (hi : l[i]? = some (Oper.mk (some d) op ty pos af none)) (hs : Region.noSelect l.toArray = true) (hf : Region.free .any l.toArray listed i = true)
  (hr : (Region.ready .any l.toArray listed).contains i = true) (hg : Gv P env R (Oper.mk (some d) op ty pos af none) x)
  (h : AAnyR P E l Q fuel (listed.setIfInBounds i true) (aupd env d x) R Om) : AAnyR P E l Q (fuel + 1) listed env R Om := fun I F ρ w Lr h1 hLr h2 => by
 obtain ⟨v, hv, hrun⟩ := hg I Lr E ρ h1 hLr
 exact AnyV.takeK hi hs hf hr rfl h2.here (.inr h2.here) (fun w ⟨J, L', a, b, c⟩ => hrun w J L' a b c) (h I F _ w Lr (h1.upd d hv) hLr h2)
theorem AAnyR.one {i : Nat} {o : Oper} (hi : l[i]? = some o) (hr : Region.ready .any l.toArray listed = [i])
  (h : AOps P E l.toArray (fun env' Om' => AAnyR P E l Q fuel (listed.setIfInBounds i true) env' R Om') [o] env Om) : AAnyR P E l Q (fuel + 1) listed env R Om := fun I F ρ w Lr h1 hLr h2 =>
 AnyV.one hi hr (yv (fun ρ' w' ⟨J, env', Om', a, b, c, d⟩ => by
  have hst : stays I.k Lr E w' := by
   obtain ⟨J', L', h3, h4, h5⟩ := c.here
   exact ⟨J', L', a.k.trans h3, h4, h5⟩
  refine ⟨⟨hst, .inr hst⟩, AnyV.mono ?_ ?_ (fun _ _ => yw a) _ _ _ _ (d J F ρ' w' Lr b (hLr.mono a) c)⟩
  ·rintro w ⟨J', L', h3, h4⟩; exact ⟨J', L', a.k.trans h3, h4⟩
  ·rintro w ⟨J', L', h3, h4⟩; exact ⟨J', L', a.k.trans h3, h4⟩) _ _ _ (h I (Lr ++ F) ρ w h1 h2))
theorem AAnyR.done (hr : Region.ready .any l.toArray listed = []) (h : Q env (R ++ Om)) : AAnyR P E l Q fuel listed env R Om := fun I F ρ w Lr h1 hLr h2 =>
 AnyV.done hr ⟨I, env, R ++ Om, .refl _, h1, SLA.together hLr h2, h⟩
end
end Go.Proofs.YtoicilchhkndmaaGreatDoor
namespace Go.Proofs.YtoicilchhkndmaaGreatDoor
open Go.Proofs.Tryz
open Go.Proofs
end Go.Proofs.YtoicilchhkndmaaGreatDoor
namespace Go.Proofs.YtoicilchhkndmaaGreatDoor
open Go.Proofs.Tryz
open Go.Proofs
end Go.Proofs.YtoicilchhkndmaaGreatDoor
namespace Go.Proofs.YtoicilchhkndmaaGreatDoor
open Go.Proofs.Tryz
def bag (X : OL) : AObj := .heapG (fun I L => ∃ L', RepOs I X L' ∧ L.Perm L') fun I J L h hp => by obtain ⟨L', h1, h2⟩ := hp; exact ⟨L', h1.mono h, h2⟩
section
variable {E : World} {env : AEnv} {O O1 O' : OL} {m i : Nat} {o : AObj} {X X' : OL}
theorem GStep.bagNew : GStep E env O env ((0, bag []) :: O) := fun I F ρ w h1 ⟨ht, L, hL, hS⟩ => ⟨I, .refl _, h1, ht, L, ⟨[], L, rfl, ⟨[], rfl, .refl _⟩, hL⟩, hS⟩
theorem GStep.bagOut (hX : X.Perm ((i, o) :: X')) (hO : Put O m (bag X) (bag X') O') : GStep E env O env ((i, o) :: O') := fun I F ρ w h1 ⟨ht, L, hL, hS⟩ => by
 obtain ⟨A, B, hp, ⟨L', hA, hpA⟩, hback⟩ := hO.rep hL
 obtain ⟨L2, h2, h3⟩ := hA.perm hX
 obtain ⟨C, D, rfl, h4, h5⟩ := h2
 obtain ⟨L3, h6, h7⟩ := hback (G.le.refl I) (A' := D) ⟨D, h5, .refl _⟩
 refine ⟨I, .refl _, h1, ht, C ++ L3, ⟨C, L3, Z, h4, h6⟩, hS.perm (List.Perm.append_right F ?_)⟩
 refine (h7.append_left C).trans ?_
 rw [← List.append_assoc]
 exact (((hpA.trans h3).append_right B).symm).trans hp.symm
theorem GStep.bagIn (hP : Pick O i o O1) (hX : ((i, o) :: X).Perm X') (hO : Put O1 m (bag X) (bag X') O') : GStep E env O env O' := fun I F ρ w h1 ⟨ht, L, hL, hS⟩ => by
 obtain ⟨A, B, hp, hA, hB⟩ := hP.rep hL
 obtain ⟨A2, B2, hp2, ⟨L', h3, h4⟩, hback⟩ := hO.rep hB
 obtain ⟨L4, h5, h6⟩ := (show RepOs I ((i, o) :: X) (A ++ L') from ⟨A, L', rfl, hA, h3⟩).perm hX
 obtain ⟨L5, h7, h8⟩ := hback (G.le.refl I) (A' := A ++ A2) ⟨L4, h5, (h4.append_left A).trans h6⟩
 refine ⟨I, .refl _, h1, ht, L5, h7, hS.perm (List.Perm.append_right F ?_)⟩
 refine h8.trans ?_
 rw [List.append_assoc]
 exact ((hp2.append_left A).symm).trans hp.symm
end
theorem zip_out {α β γ : Type} (g : α → β → γ) : ∀ (xs : List α) (ys : List β) (j : Nat) {a : α} {b : β}, xs[j]? = some a → ys[j]? = some b → ∃ X, (List.zipWith g xs ys).Perm (g a b :: X) ∧ ∀ a' b', (g a' b' :: X).Perm (List.zipWith g (xs.set j a') (ys.set j b'))
 | [], _, j, _, _, h, _ => by simp at h
 | _ :: _, [], j, _, _, _, h => by simp at h
 | x :: xs, y :: ys, 0, a, b, h1, h2 => by
  simp at h1 h2
  subst h1 h2
  exact ⟨List.zipWith g xs ys, .refl _, fun _ _ => .refl _⟩
 | x :: xs, y :: ys, j + 1, a, b, h1, h2 => by
  obtain ⟨X, h3, h4⟩ := zip_out g xs ys j (by simpa using h1) (by simpa using h2)
  refine ⟨g x y :: X, (h3.cons _).trans (.swap _ _ _), fun a' b' => ?_⟩
  exact (List.Perm.swap _ _ _).trans ((h4 a' b').cons _)
section
variable {E : World} {env : AEnv} {O O1 O' : OL} {m i k : Nat} {T : TypeId} {cs cs' : List AV} {X : OL}
end
end Go.Proofs.YtoicilchhkndmaaGreatDoor
namespace Go.Proofs.YtoicilchhkndmaaGreatDoor
open Go.Proofs.Tryz
open Go.Proofs
def Imp (x y : AV) : Prop := ∀ I v, RepV I x v → RepV I y v
def ImpL (xs ys : List AV) : Prop := ∀ I vs, RepL I xs vs → RepL I ys vs
theorem Imp.refl (x : AV) : Imp x x := fun _ _ h => h
theorem Imp.nil (k : Nat) : Imp (.raw (.slice none 0 0)) (.fro k []) := fun _ _ h => ⟨none, 0, 0, h, rfl, Nat.le_refl _, fun _ => rfl, trivial⟩
theorem ImpL.nil : ImpL [] [] := fun _ _ h => h
theorem ImpL.cons {x y : AV} {xs ys : List AV} (h : Imp x y) (hs : ImpL xs ys) : ImpL (x :: xs) (y :: ys) := fun I _ ⟨v, us, e, h1, h2⟩ => ⟨v, us, e, h I v h1, hs I us h2⟩
theorem Imp.agg {xs ys : List AV} (h : ImpL xs ys) : Imp (.agg xs) (.agg ys) := fun I _ ⟨vs, e, h1⟩ => ⟨vs, e, h I vs h1⟩
end Go.Proofs.YtoicilchhkndmaaGreatDoor
namespace Go.Proofs.YtoicilchhkndmaaGreatDoor
open Go.Proofs.Tryz
open Go.Proofs Go.Lib Go.Shelf Go.RowKit
variable {E : World}
set_option maxRecDepth 20000
def ownsA (ids : List Nat) (rs : List (List Int)) : List AV := List.zipWith (fun i r => AV.own i r.length) ids rs
def rowA (i : Nat) (r : List Int) : Nat × AObj := (i, .grow 1 2 (cI r))
def bagA (ids : List Nat) (rs : List (List Int)) : OL := List.zipWith rowA ids rs
theorem owns_len {ids : List Nat} {rs : List (List Int)} (h : ids.length = rs.length) : (ownsA ids rs).length = rs.length := by unfold ownsA; simp [h]
theorem owns_drop : ∀ {ids : List Nat} {rs : List (List Int)} {j i : Nat} {r : List Int}, ids[j]? = some i → rs[j]? = some r → (ownsA ids rs).drop j = .own i r.length :: (ownsA ids rs).drop (j + 1)
 | [], _, _, _, _, h, _ => by simp at h
 | _ :: _, [], _, _, _, _, h => by simp at h
 | i :: ids, r :: rs, 0, _, _, h1, h2 => by
  simp at h1 h2
  subst h1 h2; rfl
 | _ :: ids, _ :: rs, j + 1, i, r, h1, h2 => owns_drop (ids := ids) (rs := rs) (by simpa using h1) (by simpa using h2)
theorem get_id {ids : List Nat} {rs : List (List Int)} (h : ids.length = rs.length) {j : Nat} (hj : j < rs.length) : ∃ i, ids[j]? = some i := ⟨_, q3 (by omega)⟩
end Go.Proofs.YtoicilchhkndmaaGreatDoor
namespace Go.Proofs.YtoicilchhkndmaaGreatDoor
open Go.Proofs.Tryz
open Go.Proofs Go.Lib Go.Shelf Go.RowKit
variable {E : World}
set_option maxRecDepth 20000
theorem set_id {α : Type} : ∀ {l : List α} {j : Nat} {a : α}, l[j]? = some a → l.set j a = l
 | [], _, _, h => by simp at h
 | _ :: _, 0, _, h => by simp at h; subst h; rfl
 | _ :: l, j + 1, a, h => by rw [List.set_cons_succ, set_id (l := l) (by simpa using h)]
theorem owns_set : ∀ {ids : List Nat} {rs : List (List Int)} {j : Nat} {r r' : List Int}, rs[j]? = some r → r'.length = r.length → ownsA ids (rs.set j r') = ownsA ids rs
 | [], _, _, _, _, _, _ => rfl
 | _ :: _, [], _, _, _, h, _ => by simp at h
 | i :: ids, r0 :: rs, 0, r, r', h, hl => by
  simp at h
  subst h
  show AV.own i r'.length :: _ = AV.own i r0.length :: _
  rw [hl]
 | i :: ids, r0 :: rs, j + 1, r, r', h, hl => by
  show AV.own i r0.length :: ownsA ids (rs.set j r') = AV.own i r0.length :: ownsA ids rs
  rw [owns_set (by simpa using h) hl]
theorem owns_push {ids : List Nat} {rs : List (List Int)} (i : Nat) (r : List Int) (h : ids.length = rs.length) : ownsA ids rs ++ [AV.own i r.length] = ownsA (ids ++ [i]) (rs ++ [r]) := by
 unfold ownsA; rw [List.zipWith_append h]; rfl
theorem bag_push {ids : List Nat} {rs : List (List Int)} (i : Nat) (r : List Int) (h : ids.length = rs.length) : (rowA i r :: bagA ids rs).Perm (bagA (ids ++ [i]) (rs ++ [r])) := by
 unfold bagA; rw [List.zipWith_append h]; exact List.perm_append_comm (l₁ := [_])
end Go.Proofs.YtoicilchhkndmaaGreatDoor
namespace Go.Proofs.YtoicilchhkndmaaGreatDoor
open Go.Proofs.Tryz
section
variable {E : World} {P : Program} {ops : Array Oper} {K : AEnv → OL → Prop} {env : AEnv} {O O' : OL} {rest : List Oper}
variable {d ty : Nat} {pos : String} {af : Array Edge} {x y z : Operand} {t u e : TypeId}
end
end Go.Proofs.YtoicilchhkndmaaGreatDoor
namespace Go.Proofs.YtoicilchhkndmaaGreatDoor
open Go.Proofs.Tryz
section
variable {E : World} {P : Program} {ops : Array Oper} {K : AEnv → OL → Prop} {env : AEnv} {O O' : OL} {rest : List Oper}
variable {d ty : Nat} {pos : String} {af : Array Edge} {x y z : Operand} {t u e : TypeId}
end
end Go.Proofs.YtoicilchhkndmaaGreatDoor
namespace Go.Proofs.YtoicilchhkndmaaGreatDoor
open Go.Proofs.Tryz
open Go.Proofs Go.Lib Go.Shelf Go.RowKit
variable {E : World}
set_option maxRecDepth 20000
end Go.Proofs.YtoicilchhkndmaaGreatDoor
namespace Go.Proofs.YtoicilchhkndmaaGreatDoor
open Go.Proofs.Tryz
open Go.Proofs Go.Lib Go.Shelf Go.RowKit
variable {E : World}
set_option maxRecDepth 20000
theorem term_v {f : PFunc} {t : PTerm} (h : termOK f t = true) (hk : ¬ t.kind = 0) : t.var < f.vars.length ∧ 0 ≤ t.var := has_lt (term_var h hk)
end Go.Proofs.YtoicilchhkndmaaGreatDoor
namespace Go.Proofs.YtoicilchhkndmaaGreatDoor
open Go.Proofs.Tryz
open Go.Proofs Go.Lib Go.Shelf Go.RowKit
variable {E : World}
set_option maxRecDepth 20000
def encArg (a : PArg) : List AV := [.int .i64 a.int, .bool a.b, .int .i64 a.arr]
def encArr (r : List Int) : List AV := [.fro 1 (r.map encI)]
def encIn (i : PIn) : List AV := [.fro 3 (i.args.map encArg), .fro 1 (i.arrays.map encArr)]
def encOut (s : GS) : List AV := [.int .i64 s.en, .int .i64 s.val, .int .i64 s.tr, .fro 1 (s.trace.map encI), .int .i64 s.st, .int .i64 (s.ck 0), .int .i64 (s.ck 1), .int .i64 (s.ck 2), .int .i64 (s.ck 3), .int .i64 (s.ck 4), .int .i64 (s.ck 5), .int .i64 (s.ck 6), .int .i64 (s.ck 7)]
section
variable {α β : Type} {g : Nat → α → β} {d : β} {n k : Nat} {l : List α}
end
theorem flat_I (r : List Int) : (r.map encI).flatten = cI r := cI_flat r
end Go.Proofs.YtoicilchhkndmaaGreatDoor
namespace Go.Proofs.YtoicilchhkndmaaGreatDoor
open Go.Proofs.Tryz
open Go.Proofs Go.Lib Go.Shelf Go.RowKit
theorem ps28_1 : PlacesS prog 28 37 1 1 [.raw (.slice none 0 0)] := ⟨_, jn, Z0, zeroValue37, by decide, by decide, by kernel_rfl⟩
variable {E : World}
set_option maxRecDepth 20000
abbrev hO (jh jo : Nat) (ids : List Nat) (rows : List (List Int)) : OL := [(jh, .cells 107 [.own jo rows.length]), (jo, .grow 1 37 (ownsA ids rows)), (0, bag (bagA ids rows))]
def rwR (rows : List (List Int)) (a : Int) : List Int := (rows[a.toNat]?).getD []
def hasR (rows : List (List Int)) (a : Int) : Bool := decide (0 ≤ a ∧ a < rows.length)
def placeR (rows : List (List Int)) (a i : Int) : Bool := hasR rows a && decide (0 ≤ i ∧ i < (rwR rows a).length)
theorem rwR_get {rows : List (List Int)} {a : Int} (h0 : 0 ≤ a) (h1 : a < rows.length) : rows[a.toNat]? = some (rwR rows a) := by
 unfold rwR; rw [q3 (by omega)]; rfl
theorem ACall.sub {P : Program} {f : FuncId} {ars : List AV} {O : OL} {R : AV → OL → Prop} (h : ACall P E f ars O (fun y O1 => ∃ O2, R y O2 ∧ Left O1 O2)) : ACall P E f ars O R :=
 h.know fun I F w v y O' ⟨O2, e, hl⟩ h1 h2 => ⟨I, y, O2, .refl _, h1, hl.sla h2, e⟩
theorem sub_none : ∀ X : OL, Sub X []
 | [] => .refl _
 | _ :: X => .drop (sub_none X)
theorem left7 {a b c d e f : Nat × AObj} {X : OL} : Left (a :: b :: c :: d :: e :: f :: X) [a, b, c, d, e, f] := ⟨_, .keep (.keep (.keep (.keep (.keep (.keep (sub_none X)))))), rfl⟩
theorem left8 {a b c d e f x : Nat × AObj} {X : OL} : Left (x :: a :: b :: c :: d :: e :: f :: X) [a, b, c, d, e, f] := ⟨_, .drop (.keep (.keep (.keep (.keep (.keep (.keep (sub_none X))))))), rfl⟩
theorem hsize_spec (n : Int) : AFun prog E 113 [.int .i64 n] (.bool (decide (0 ≤ n ∧ n ≤ 64))) := by
 refine zn func113 Z (by decide) Z<|zSr<|zVzAb Z<|z6<|zSr<|zVzMi Z<|z7 (Gv.geq Z Z)<|zVzMb Z<|zx (s := 5) Z (fun c=>?_) (fun c=>?_)
 ·have ca : 0 ≤ n := by simpa using c
  refine za Z Z c<|zVzMi Z<|za Z Z c<|z7 (Gv.leq Z Z)<|zVzPt Z c Z<|zVzAb Z<|z6<|ze<|zk (x := .bool _) Z ?_
  exact jb (by simp [c])
 ·have ca : ¬ 0 ≤ n := by simpa using c
  refine z8 Z Z c<|z8 Z Z c<|zVzPf Z c Z<|zVzAb Z<|z6<|ze<|zk (x := .bool _) Z ?_
  exact jb (by simp [c])
theorem hhas_spec (jh jo : Nat) (ids : List Nat) (rows : List (List Int)) (a : Int) (hids : ids.length = rows.length) : ACall prog E 140 [.po jh 0, .int .i64 a] (hO jh jo ids rows) (fun y O => y = .bool (hasR rows a) ∧ O = hO jh jo ids rows) := by
 refine zn func140 Z (by decide) Z<|zSr<|zVzAb Z<|z6<|zSr<|zVzMp Z<|z7 (Gv.neqPo underlying79 type107 Z)<|zVzMb Z<|za Z Z Z<|zVzMi Z<|za Z Z Z<|z7 (Gv.geq Z Z)<|zVzPt Z Z Z<|zVzMb Z<|zx (s := 11) Z (fun c1=>?_) (fun c1=>?_)
 ·have h1 : 0 ≤ a := by simpa using c1
  refine za Z Z c1<|zVzMi Z<|za Z Z c1<|zVzMp Z<|za Z Z c1<|z7 (zq Z)<|za Z Z c1<|z7 (zf Zd Z Zi (by decide) Z Z)<|za Z Z c1<|z7 (zt (c := .own _ _) Zx Z ⟨_, .head⟩ Z)<|za Z Z c1<|z7 (Gv.lenO jn Z)<|za Z Z c1<|zVGvlss Z Z<|zVzPt Z c1 Z<|zVzAb Z<|z6<|ze<|zk (x := .bool _) Z ?_
  exact ⟨congrArg AV.bool (by unfold hasR; simp [h1]), rfl⟩
 ·have h1 : ¬ 0 ≤ a := by simpa using c1
  refine z8 Z Z c1<|z8 Z Z c1<|z8 Z Z c1<|z8 Z Z c1<|z8 Z Z c1<|z8 Z Z c1<|z8 Z Z c1<|zVzPf Z c1 Z<|zVzAb Z<|z6<|ze<|zk (x := .bool _) Z ?_
  exact ⟨congrArg AV.bool (by unfold hasR; simp [h1]), rfl⟩
theorem hlen_spec (jh jo : Nat) (ids : List Nat) (rows : List (List Int)) (a : Int) (hids : ids.length = rows.length) : ACall prog E 116 [.po jh 0, .int .i64 a] (hO jh jo ids rows) (fun y O => y = .tup [.int .i64 (if hasR rows a = true then (rwR rows a).length else 0), .bool (hasR rows a)] ∧ O = hO jh jo ids rows) := by
 refine zn func116 Z (by decide) Z<|zSr<|zVzAi Z<|zVzAb Z<|z6<|zc<|zSr<|zVzMp Z<|zVzMi Z<|y7 Z (zr (.l (.l (.l (.rest _))))) (hhas_spec jh jo ids rows a hids) ?_
 rintro r8 O8 ⟨rfl, rfl⟩
 refine zVGvnot Z<|z6<|yb Z (fun c=>?_) (fun c=>?_)
 ·have c : hasR rows a = false := by simpa using c
  refine zSr<|zVzAi Z<|zVzAb Z<|z6<|ze<|yh (x := .int _ _) (y := .bool _) Z Z ?_
  exact ⟨by rw [c]; rfl, rfl⟩
 ·have c : hasR rows a = true := by simpa using c
  obtain ⟨h1, h2⟩ := of_decide_eq_true c
  obtain ⟨q, hq⟩ := get_id hids (j := a.toNat) (by omega)
  refine zj<|zSr<|zVzMp Z<|z7 (zq Z)<|z7 (zf Zd Z Zi (by decide) Z Z)<|z7 (zt (c := .own _ _) Zx Z ⟨_, .head⟩ Z)<|zVzMi Z<|z7 (Gv.idxI (j := a.toNat) jn Z0 Z Z (Int.toNat_of_nonneg h1).symm ⟨_, .t1⟩ (owns_len hids) (by omega))<|z7 (Gv.load1G (c := _) Zg Z ⟨_, .t1⟩ (owns_drop hq (rwR_get h1 h2)))<|z7 (Gv.lenO ji Z)<|zVzAi Z<|zVzAb Z<|z6<|ze<|yh (x := .int _ _) (y := .bool _) Z Z ?_
  exact ⟨by rw [c]; rfl, rfl⟩
theorem hin_spec (jh jo : Nat) (ids : List Nat) (rows : List (List Int)) (a i : Int) (hids : ids.length = rows.length) : ACall prog E 112 [.po jh 0, .int .i64 a, .int .i64 i] (hO jh jo ids rows) (fun y O => y = .bool (placeR rows a i) ∧ O = hO jh jo ids rows) := by
 refine zn func112 Z (by decide) Z<|zSr<|zVzAb Z<|z6<|zSr<|zVzMp Z<|zVzMi Z<|y7 Z (zr (.l (.l (.l (.rest _))))) (hlen_spec jh jo ids rows a hids) ?_
 rintro r12 O12 ⟨rfl, rfl⟩
 refine z7 (zMu Z)<|z7 (zXi Z Z)<|z7 (zXb Z Z)<|zVzAi Z<|zVzAb Z<|z6<|zSr<|zVzMb Z<|zVzMb Z<|zx (s := 16) Z (fun c1=>?_) (fun c1=>?_)
 ·have c1 : hasR rows a = true := c1
  refine za Z Z c1<|zVzMi Z<|za Z Z c1<|z7 (Gv.geq Z Z)<|zVzPt Z c1 Z<|zVzMb Z<|zx (s := 20) Z (fun c2=>?_) (fun c2=>?_)
  ·have c2a : 0 ≤ i := by simpa using c2
   refine za Z Z c2<|zVzMi Z<|za Z Z c2<|zVzMi Z<|za Z Z c2<|zVGvlss Z Z<|zVzPt Z c2 Z<|zVzAb Z<|z6<|ze<|zk (x := .bool _) Z ?_
   exact ⟨congrArg AV.bool (by unfold placeR; simp [c1, c2]), rfl⟩
  ·have c2a : ¬ 0 ≤ i := by simpa using c2
   refine z8 Z Z c2<|z8 Z Z c2<|z8 Z Z c2<|zVzPf Z c2 Z<|zVzAb Z<|z6<|ze<|zk (x := .bool _) Z ?_
   exact ⟨congrArg AV.bool (by unfold placeR; simp [c2]), rfl⟩
 ·have c1 : hasR rows a = false := c1
  refine z8 Z Z c1<|z8 Z Z c1<|zVzPf Z c1 Z<|zVzMb Z<|z8 Z Z Z<|z8 Z Z Z<|z8 Z Z Z<|zVzPf Z Z Z<|zVzAb Z<|z6<|ze<|zk (x := .bool _) Z ?_
  exact ⟨congrArg AV.bool (by unfold placeR; simp [c1]), rfl⟩
theorem placeR_iff {rows : List (List Int)} {a i : Int} : placeR rows a i = true ↔ 0 ≤ a ∧ a < rows.length ∧ 0 ≤ i ∧ i < (rwR rows a).length := by
 unfold placeR hasR; simp [and_assoc]
theorem hload_spec (jh jo : Nat) (ids : List Nat) (rows : List (List Int)) (a i : Int) (hids : ids.length = rows.length) : ACall prog E 117 [.po jh 0, .int .i64 a, .int .i64 i] (hO jh jo ids rows) (fun y O => y = .tup [.int .i64 (if placeR rows a i = true then vi (rwR rows a) i else 0), .bool (placeR rows a i)] ∧ O = hO jh jo ids rows) := by
 refine zn func117 Z (by decide) Z<|zSr<|zVzAi Z<|zVzAb Z<|z6<|zc<|zSr<|zVzMp Z<|zVzMi Z<|zVzMi Z<|y7 Z (zr (.l (.l (.l (.rest _))))) (hin_spec jh jo ids rows a i hids) ?_
 rintro r11 O11 ⟨rfl, rfl⟩
 refine zVGvnot Z<|z6<|yb Z (fun c=>?_) (fun c=>?_)
 ·have c : placeR rows a i = false := by simpa using c
  refine zSr<|zVzAi Z<|zVzAb Z<|z6<|ze<|yh (x := .int _ _) (y := .bool _) Z Z ?_
  exact ⟨by rw [c]; rfl, rfl⟩
 ·have c : placeR rows a i = true := by simpa using c
  obtain ⟨h1, h2, h3, h4⟩ := placeR_iff.1 c
  obtain ⟨q, hq⟩ := get_id hids (j := a.toNat) (by omega)
  obtain ⟨X, hX1, hX2⟩ := zip_out rowA ids rows _ hq (rwR_get h1 h2)
  refine zp (GStep.bagOut (i := q) (o := .grow 1 2 (cI (rwR rows a))) (X' := X) (hX1) .t2)<|zj<|zSr<|zVzMp Z<|z7 (zq Z)<|z7 (zf Zd Z Zi (by decide) Z Z)<|z7 (zt (c := .own _ _) Zx Z ⟨_, .t1⟩ Z)<|zVzMi Z<|z7 (Gv.idxI (j := a.toNat) jn Z0 Z Z (Int.toNat_of_nonneg h1).symm ⟨_, .t2⟩ (owns_len hids) (by omega))<|z7 (Gv.load1G (c := _) Zg Z ⟨_, .t2⟩ (owns_drop hq (rwR_get h1 h2)))<|zVzMi Z<|z7 (Gv.idxI (j := i.toNat) ji jm Z Z (Int.toNat_of_nonneg h3).symm ⟨_, .head⟩ (cI_len _) (by omega))<|z7 (Gv.loadI (j := i.toNat) Z5 Z ⟨_, .head⟩ (vi_get h4 h3))<|zVzAi Z<|zVzAb Z<|z6<|zp (GStep.bagIn (X' := bagA ids rows) .head (hX1.symm) .t2)<|zp (zh (zm .t1))<|zp (zh (zm .t1))<|ze<|yh (x := .int _ _) (y := .bool _) Z Z ?_
  exact ⟨by rw [c]; rfl, rfl⟩
theorem hstore_spec (jh jo : Nat) (ids : List Nat) (rows : List (List Int)) (a i v : Int) (hids : ids.length = rows.length) : ACall prog E 118 [.po jh 0, .int .i64 a, .int .i64 i, .int .i64 v] (hO jh jo ids rows) (fun y O => y = .bool (placeR rows a i) ∧ O = hO jh jo ids (if placeR rows a i = true then rows.set a.toNat ((rwR rows a).set i.toNat v) else rows)) := by
 refine zn func118 Z (by decide) Z<|zSr<|zVzAb Z<|z6<|zc<|zSr<|zVzMp Z<|zVzMi Z<|zVzMi Z<|y7 Z (zr (.l (.l (.l (.rest _))))) (hin_spec jh jo ids rows a i hids) ?_
 rintro r12 O12 ⟨rfl, rfl⟩
 refine zVGvnot Z<|z6<|yb Z (fun c=>?_) (fun c=>?_)
 ·have c : placeR rows a i = false := by simpa using c
  refine zSr<|zVzAb Z<|z6<|ze<|zk (x := .bool _) Z ?_
  exact ⟨by rw [c], by rw [c]; rfl⟩
 ·have c : placeR rows a i = true := by simpa using c
  obtain ⟨h1, h2, h3, h4⟩ := placeR_iff.1 c
  obtain ⟨q, hq⟩ := get_id hids (j := a.toNat) (by omega)
  obtain ⟨X, hX1, hX2⟩ := zip_out rowA ids rows _ hq (rwR_get h1 h2)
  refine zp (GStep.bagOut (i := q) (o := .grow 1 2 (cI (rwR rows a))) (X' := X) (hX1) .t2)<|zj<|zSr<|zVzMp Z<|z7 (zq Z)<|z7 (zf Zd Z Zi (by decide) Z Z)<|z7 (zt (c := .own _ _) Zx Z ⟨_, .t1⟩ Z)<|zVzMi Z<|z7 (Gv.idxI (j := a.toNat) jn Z0 Z Z (Int.toNat_of_nonneg h1).symm ⟨_, .t2⟩ (owns_len hids) (by omega))<|z7 (Gv.load1G (c := _) Zg Z ⟨_, .t2⟩ (owns_drop hq (rwR_get h1 h2)))<|zVzMi Z<|zVzMi Z<|z7 (Gv.idxI (j := i.toNat) ji jm Z Z (Int.toNat_of_nonneg h3).symm ⟨_, .head⟩ (cI_len _) (by omega))<|AOps.storeI (j := i.toNat) jm Z Z .head (by first | omega | (simp; omega))<|z6<|zSr<|zVzAb Z<|z6<|zp (GStep.bagIn (X' := bagA ids (rows.set a.toNat ((rwR rows a).set i.toNat v))) .head ((by have := hX2 q ((rwR rows a).set i.toNat v); rw [set_id hq] at this; exact this)) .t2)<|zp (zh (zm .t1))<|zp (zh (zm .t1))<|ze<|zk (x := .bool _) Z ?_
  exact ⟨by rw [c], by rw [if_pos c]; unfold hO; rw [owns_set (rwR_get h1 h2) (List.length_set ..)]; simp⟩
theorem hmake_spec (jh jo : Nat) (ids : List Nat) (rows : List (List Int)) (n : Int) (hids : ids.length = rows.length) : ACall prog E 115 [.po jh 0, .int .i64 n] (hO jh jo ids rows) (fun y O => ∃ jo' ids', ids'.length = (if n < 0 ∨ 64 < n then rows else if 32 ≤ rows.length then rows else rows ++ [List.replicate n.toNat 0]).length ∧ y = .tup [.int .i64 (if n < 0 ∨ 64 < n then 0 else if 32 ≤ rows.length then 0 else rows.length), .int .i64 (if n < 0 ∨ 64 < n then 1 else if 32 ≤ rows.length then 4 else 0)] ∧ O = hO jh jo' ids' (if n < 0 ∨ 64 < n then rows else if 32 ≤ rows.length then rows else rows ++ [List.replicate n.toNat 0])) := by
 refine zn func115 Z (by decide) Z<|zSr<|zVzAi Z<|zVzAi Z<|z6<|zc<|zi<|zSr<|zVzMp Z<|z7 (Gv.eqlPo underlying79 type107 Z)<|zVzMb Z<|za Z Z Z<|zVzMi Z<|za Z Z Z<|zd (hsize_spec n) Z<|za Z Z Z<|zVGvnot Z<|zVzPf Z Z Z<|zVzAb Z<|z6<|yb Z (fun c=>?_) (fun c=>?_)
 ·have c : n < 0 ∨ 64 < n := by simp at c; omega
  refine zSr<|zVzAi Z<|zVzAi Z<|z6<|ze<|yh (x := .int _ _) (y := .int _ _) Z Z ?_
  exact ⟨jo, ids, by rw [if_pos c]; exact hids, by rw [if_pos c, if_pos c], by rw [if_pos c]⟩
 ·have c : ¬ (n < 0 ∨ 64 < n) := by simp at c; omega
  refine zSr<|zVzMp Z<|z7 (zq Z)<|z7 (zf Zd Z Zi (by decide) Z Z)<|z7 (zt (c := .own _ _) Zx Z ⟨_, .head⟩ Z)<|z7 (Gv.lenO jn Z)<|z7 (Gv.geq Z Z)<|zVzAb Z<|z6<|y9 Z (fun c2=>?_) (fun c2=>?_)
  ·have c2 : 32 ≤ rows.length := by omega
   refine zSr<|zVzAi Z<|zVzAi Z<|z6<|ze<|yh (x := .int _ _) (y := .int _ _) Z Z ?_
   exact ⟨jo, ids, by rw [if_neg c, if_pos c2]; exact hids, by rw [if_neg c, if_neg c, if_pos c2, if_pos c2], by rw [if_neg c, if_pos c2]⟩
  ·have c2 : ¬ 32 ≤ rows.length := by omega
   refine zj<|zc<|zw (fun j => Nat.beq j 11) (by kernel_rfl) Z (zr (.r (.rest _)))<|zTk 0 Z (zMp Z)<|zTk 1 Z (zMp Z)<|zTk 2 Z (zq Z)<|zTk 3 Z (zf Zd Z Zi (by decide) Z Z)<|zTk 4 Z (zt (c := .own _ _) Zx Z ⟨_, .head⟩ Z)<|zTk 5 Z (zMi Z)<|zOn 6 Z<|AOps.makeI (m := n.toNat) ji type2 Z Z Z Z Z (by omega) (by omega) (by show (8 : Int) * _ ≤ _; omega) (by omega)<|fun i27 => z6<|zOn 7 Z<|yi (rows := [[_]]) ps28_1 Z Z Z Z Z<|z6<|zOn 8 Z<|yo (k := 1) jn type37 Z Z Z Z Z (fun _ => .t1) (by rw [owns_len hids]; omega) (by decide) Z (by show (_ + 1) * 24 ≤ _; omega) (by show _ + 1 ≤ _; omega)<|fun i29 => z6<|yc (i := 9) Z (by kernel_rfl) (by kernel_rfl) (by kernel_rfl) (by kernel_rfl) (zq Z)<|zTk 10 Z (zf Zd Z Zi (by decide) Z Z)<|y8<|zu (i := 11) Z (by kernel_rfl) (by kernel_rfl)<|zg Zi Z Z Z Z Z Z .head Z<|z6<|ya (by kernel_rfl)<|zp (GStep.bagIn (X' := bagA (ids ++ [i27]) (rows ++ [List.replicate n.toNat 0])) .t1 (bag_push i27 _ hids) .t2)<|zSr<|zVzMp Z<|z7 (zq Z)<|z7 (zf Zd Z Zi (by decide) Z Z)<|z7 (zt (c := .own _ _) Zx Z ⟨_, .head⟩ Z)<|z7 (Gv.lenO jn Z)<|z7 (Gv.sub Z Z (by unfold I64; simp only [List.length_cons, List.length_nil]; omega))<|zVzAi Z<|zVzAi Z<|z6<|zp (zh (zm .t1))<|zp (zh (zm .t1))<|ze ?_
   refine yh (x := .int _ _) (y := .int _ _) Z Z ?_
   exact ⟨i29, ids ++ [i27], by rw [if_neg c, if_neg c2]; simp [hids], by rw [if_neg c, if_neg c, if_neg c2, if_neg c2]; simp, by rw [if_neg c, if_neg c2]; unfold hO; rw [← owns_push i27 (List.replicate n.toNat 0) hids, show (rows ++ [List.replicate n.toNat (0 : Int)]).length = rows.length + 1 by simp, List.length_replicate]; rfl⟩
end Go.Proofs.YtoicilchhkndmaaGreatDoor
namespace Go.Proofs.YtoicilchhkndmaaGreatDoor
open Go.Proofs.Tryz
open Go.Proofs
variable {E : World}
set_option maxRecDepth 20000
theorem aMul {x y : Int} (hx : is64 x) (hy : is64 y) : AFun prog E 139 [.int .i64 x, .int .i64 y] (.tup [.int .i64 (IntKind.i64.wrap (x * y)), .bool (decide (fit3 2 x y))]) := by
 rw [← mulB]
 refine zn func139 Z (by decide) Z<|zSr<|zVzAi Z<|zVzAb Z<|z6<|zSr<|zVzMi Z<|zd (aAbs hx) Z<|zVzMi Z<|zd (aAbs hy) Z<|zd (mul64_spec _ _ (abs_lt hx) (abs_lt hy)) Z<|z7 (zMu Z)<|z7 (zXi Z Z)<|z7 (zXi Z Z)<|zVzAi Z<|zVzAi Z<|z6<|zSr<|zVzAi Z<|z6<|zc<|zSr<|zVzMi Z<|zVGvlss Z Z<|zVzMi Z<|zVGvlss Z Z<|z7 (Gv.neqB Zc Z Z)<|z6<|AWP.cutS (γ := Int) [0, 1, 6, 7] (fun m => [(8, .int .u64 m)]) (fun m => []) (fun m => m = if (!(decide (x < 0) == decide (y < 0))) = true then 9223372036854775808 else 9223372036854775807) ?_ (fun _ _ h => h) ?_
 ·refine yb Z (fun c1=>?_) (fun c1=>?_)
  ·refine zRg<|zVzMi Z<|z7 (Gv.addW Z Z)<|zVzAi Z<|z6 ?_
   exact ⟨_, zR4, zR1, zLe, by simp_all <;> first | rfl | decide⟩
  ·refine zj ?_
   exact ⟨_, zR4, zR1, zLe, by simp_all <;> first | rfl | decide⟩
 ·rintro m hm
  subst hm
  refine zSr<|zVzMi Z<|zVzMi Z<|z7 (Gv.mulW Z Z)<|zVzMi Z<|zVGveqlI Z Z<|zVzMb Z<|zx (s := 29) Z (fun c2=>?_) (fun c2=>?_)
  ·refine za Z Z c2<|zVzMi Z<|za Z Z c2<|zVzMi Z<|za Z Z c2<|z7 (Gv.leq Z Z)<|zVzPt Z c2 Z<|zVzAi Z<|zVzAb Z<|z6<|ze<|yh (x := .int _ _) (y := .bool _) Z Z ?_
   simp_all
  ·refine z8 Z Z c2<|z8 Z Z c2<|z8 Z Z c2<|zVzPf Z c2 Z<|zVzAi Z<|zVzAb Z<|z6<|ze<|yh (x := .int _ _) (y := .bool _) Z Z ?_
   simp_all
end Go.Proofs.YtoicilchhkndmaaGreatDoor
