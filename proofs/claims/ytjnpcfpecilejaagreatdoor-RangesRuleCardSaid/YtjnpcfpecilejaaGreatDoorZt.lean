/- The program's rule for whoever asks; tables of ranges. Of programs that are little. -/
import Derived.Test.YtjnpcfpecilejaaGreatDoorZo
import Derived.Test.YtjnpcfpecilejaaGreatDoorZh
import Derived.Test.YtjnpcfpecilejaaGreatDoorZs
set_option linter.unusedVariables false
set_option linter.unusedSimpArgs false
set_option linter.unusedSectionVars false
namespace Go.Proofs.YtjnpcfpecilejaaGreatDoor
open Go.Proofs.Tryz
open Go.Proofs Go.Lib Go.Shelf Go.RowKit
set_option maxRecDepth 20000
variable {E : World}
theorem sum_take {α : Type} (g : α → Nat) : ∀ (l : List α) (k : Nat), ((l.take k).map g).sum ≤ (l.map g).sum
 | [], k => by simp
 | x :: l, 0 => by simp
 | x :: l, k + 1 => by
  have := sum_take g l k
  simp only [List.take_succ_cons, List.map_cons, List.sum_cons]; omega
theorem wP_take (l : List PPhi) (k : Nat) : wP (l.take k) ≤ wP l := sum_take _ l k
theorem wX_take (l : List PInst) (k : Nat) : wX (l.take k) ≤ wX l := sum_take _ l k
theorem little_le {f : PFunc} (h : little f) {k : Nat} (hk : k < f.blocks.length) : wV f.vars + wBs (f.blocks.take k) + wB f.blocks[k] ≤ 4000 := by
 have h1 := h.2.2.2.2.2 (fun e => by rw [e] at hk; exact absurd hk (Nat.not_lt_zero _))
 have h2 : wBs (f.blocks.take (k + 1)) ≤ wBs f.blocks := sum_take _ f.blocks (k + 1)
 rw [wBs_succ hk] at h2
 omega
set_option maxHeartbeats 8000000 in
theorem fewIff_spec (f : PFunc) (hf : wFunc f) : ACall Tryz.prog E 12 [.agg (encF f)] [] (fun x _ => ∃ b : Bool, x = .bool b ∧ (b = true ↔ little f)) := by
 obtain ⟨hf1, hf2, hf3, hf4⟩ := hf
 have hl1 := hf1.lt
 have hl3 := hf3.lt
 refine zp func12 rfl (by decide) rfl<|za<|z7 rfl<|y7 (cs := _) rfl rfl rfl<|z2 (zAb rfl)<|z6<|za<|za<|yi (γ := Unit) [1] (fun u => [(27, .bool (few1 f))]) (fun u => []) (fun u => True) ?_ (fun _ _ h => h) ?_
 ·refine z7 rfl<|z2 (zc underlying26 rfl sizeOf22 (by decide) rfl rfl)<|z2 (zLf isAgg22 rfl)<|z2 (y6 underlying22 rfl)<|z2 (yx rfl rfl)<|z2 (zMb rfl)<|zr (s := 16) rfl (fun c1 => ?_) (fun c1 => ?_)
  ·refine z8 rfl rfl c1<|z8 rfl rfl c1<|z8 rfl rfl c1<|z8 rfl rfl c1<|z2 (zPt rfl c1 rfl)<|z2 (zMb rfl)<|z8 rfl rfl rfl<|z8 rfl rfl rfl<|z8 rfl rfl rfl<|z8 rfl rfl rfl<|z2 (zPt rfl rfl rfl)<|z6 ?_
   exact ⟨(), zR1, ⟨jb (by simp_all [few1] <;> grind), trivial⟩, zLe, trivial⟩
  ·refine zb rfl rfl c1<|z2 (zc underlying26 rfl sizeOf24 (by decide) rfl rfl)<|zb rfl rfl c1<|z2 (zLf isAgg24 rfl)<|zb rfl rfl c1<|z2 (y6 underlying24 rfl)<|zb rfl rfl c1<|z2 (yx rfl rfl)<|z2 (zPf rfl c1 rfl)<|z2 (zMb rfl)<|zr (s := 22) rfl (fun c2 => ?_) (fun c2 => ?_)
   ·refine z8 rfl rfl c2<|z8 rfl rfl c2<|z8 rfl rfl c2<|z8 rfl rfl c2<|z2 (zPt rfl c2 rfl)<|z6 ?_
    exact ⟨(), zR1, ⟨jb (by simp_all [few1] <;> grind), trivial⟩, zLe, trivial⟩
   ·refine zb rfl rfl c2<|z2 (zc underlying26 rfl sizeOf23 (by decide) rfl rfl)<|zb rfl rfl c2<|z2 (zLf isAgg23 rfl)<|zb rfl rfl c2<|z2 (y6 underlying23 rfl)<|zb rfl rfl c2<|z2 (yx rfl rfl)<|z2 (zPf rfl c2 rfl)<|z6 ?_
    exact ⟨(), zR1, ⟨jb (by simp_all [few1] <;> grind), trivial⟩, zLe, trivial⟩
 ·rintro _ _
  refine y4 rfl (fun c1 => ?_) (fun c1 => ?_)
  ·refine za<|z7 rfl<|z2 (zAb rfl)<|z6<|zf<|zo (x := .bool _) rfl ?_
   exact ⟨_, rfl, fun h => (by cases h), fun hl => absurd hl (fun hl => by have h1 := hl.1; have h2 := hl.2.1; have h3 := hl.2.2.1; unfold few1 at c1; simp at c1; omega)⟩
  ·have hsz : f.vars.length ≤ 100 ∧ f.blocks.length ≤ 40 ∧ f.params.length ≤ 20 := by unfold few1 at c1; simp at c1; omega
   refine zg<|za<|z7 rfl<|z2 (zAi rfl)<|z6<|za<|za<|z7 rfl<|z2 (zc underlying26 rfl sizeOf22 (by decide) rfl rfl)<|z2 (zLf isAgg22 rfl)<|z2 (y6 underlying22 rfl)<|z2 (zMi rfl)<|z6<|zm<|ya (γ := Nat) [1, 29, 30] (fun k => [(31, .int .i64 k), (3, .int .i64 (wV (f.vars.take k)))]) (fun k => []) (fun k => k ≤ f.vars.length ∧ wV (f.vars.take k) ≤ 400 * k ∧ ∀ v ∈ f.vars.take k, v.name.size ≤ 400) (fun k => f.vars.length - k) 0 zR2 zLe (⟨qm _, Nat.le_refl _, by simp⟩) ?_
   rintro k ⟨hk, hw, hv⟩
   refine za<|z7 rfl<|z2 (yc rfl rfl)<|z6<|za<|zn rfl (fun ck => ?_) (fun ck => ?_)
   ·have hk1 : k < f.vars.length := by omega
    have hs := wV_succ hk1
    refine zg<|za<|zm<|za<|z7 rfl<|z2 (zz underlying22 sizeOf56 rfl rfl rfl (qj (by omega)))<|z2 (zj isAgg56 sizeOf56 rfl rfl)<|zq (cs := [.str ⟨#[]⟩, .int .i64 0]) zeroValue56 rfl rfl<|fun i5 => ze sizeOf56 rfl rfl rfl rfl rfl rfl .head rfl<|z6<|za<|za<|z7 rfl<|z2 (zt underlying56 rfl sizeOf9 (by decide) rfl rfl)<|z2 (zx (c := .str _) isAgg9 rfl ⟨_, .head⟩ rfl)<|z2 (Gv.lenT underlying9 rfl)<|z2 (yx rfl rfl)<|z6<|zn rfl (fun cn => ?_) (fun cn => ?_)
    ·refine za<|z7 rfl<|z2 (zAb rfl)<|z6<|zf<|zo (x := .bool _) rfl ?_
     exact ⟨_, rfl, fun h => (by cases h), fun hl => absurd hl (fun hl => by have h1 := hl.2.2.2.1 _ (qn hk1); omega)⟩
    ·refine zg<|z7 rfl<|z2 (zMi rfl)<|z2 (zt underlying56 rfl sizeOf9 (by decide) rfl rfl)<|z2 (zx (c := .str _) isAgg9 rfl ⟨_, .head⟩ rfl)<|z2 (Gv.lenT underlying9 rfl)<|z2 (yd rfl rfl (by unfold I64; omega))<|z2 (zAi rfl)<|z6<|z7 rfl<|z2 (yd rfl rfl (by unfold I64; omega))<|z2 (zMi rfl)<|z6 ?_
     exact ⟨k + 1, zR3, ⟨rfl, congrArg (AV.int .i64) (by rw [hs]; omega), trivial⟩, ⟨_, (.drop (.refl _)), rfl⟩, ⟨hk1, by omega, forall_take hk1 hv (by omega)⟩, by omega⟩
   ·obtain rfl : k = f.vars.length := by omega
    rw [qo] at hw hv
    rw [qo]
    refine y8<|za<|za<|z7 rfl<|z2 (zc underlying26 rfl sizeOf24 (by decide) rfl rfl)<|z2 (zLf isAgg24 rfl)<|z2 (y6 underlying24 rfl)<|z2 (zMi rfl)<|z6<|zm<|ya (γ := Nat) [46, 47] (fun k => [(48, .int .i64 k), (3, .int .i64 (wV f.vars + wBs (f.blocks.take k) : Nat))]) (fun k => []) (fun k => k ≤ f.blocks.length ∧ (0 < k → wV f.vars + wBs (f.blocks.take k) ≤ 4000) ∧ wBs (f.blocks.take k) ≤ 4000 ∧ ∀ b ∈ f.blocks.take k, littleB b) (fun k => f.blocks.length - k) 0 zR2 zLe (⟨qm _, by omega, by simp [wBs], by simp⟩) ?_
    rintro k ⟨hk, hw2, hw3, hb⟩
    refine za<|z7 rfl<|z2 (yc rfl rfl)<|z6<|za<|zn rfl (fun ck => ?_) (fun ck => ?_)
    ·have hk1 : k < f.blocks.length := by omega
     obtain ⟨hb1, hb2, hb3, hb4⟩ := hf4 _ (qn hk1)
     have hs := wBs_succ hk1
     refine zg<|za<|zm<|za<|z7 rfl<|z2 (zz underlying24 sizeOf66 rfl rfl rfl (qj (by omega)))<|z2 (zj isAgg66 sizeOf66 rfl rfl)<|zq (cs := [.str ⟨#[]⟩, .raw (.slice none 0 0), .raw (.slice none 0 0), .int .i64 0, .int .i64 0, .int .i64 0, .int .i64 0]) zeroValue66 rfl rfl<|fun i7 => ze sizeOf66 rfl rfl rfl rfl rfl rfl .head rfl<|z6<|za<|za<|yi (γ := Unit) [3, 7, 46, 47, 48] (fun u => [(67, .bool (few2 f.blocks[k]))]) (fun u => [(i7, .cells 66 (encBlk f.blocks[k]))]) (fun u => True) ?_ (fun _ _ h => h) ?_
     ·refine z7 rfl<|z2 (zt underlying66 rfl sizeOf9 (by decide) rfl rfl)<|z2 (zx (c := .str _) isAgg9 rfl ⟨_, .head⟩ rfl)<|z2 (Gv.lenT underlying9 rfl)<|z2 (yx rfl rfl)<|z2 (zMb rfl)<|zr (s := 56) rfl (fun c3 => ?_) (fun c3 => ?_)
      ·refine z8 rfl rfl c3<|z8 rfl rfl c3<|z8 rfl rfl c3<|z8 rfl rfl c3<|z2 (zPt rfl c3 rfl)<|z2 (zMb rfl)<|z8 rfl rfl rfl<|z8 rfl rfl rfl<|z8 rfl rfl rfl<|z8 rfl rfl rfl<|z2 (zPt rfl rfl rfl)<|z6 ?_
       exact ⟨(), zR5, ⟨jb (by simp_all [few2] <;> grind), trivial⟩, zLe, trivial⟩
      ·refine zb rfl rfl c3<|z2 (zt underlying66 rfl sizeOf59 (by decide) rfl rfl)<|zb rfl rfl c3<|z2 (zx (c := .fro _ _) isAgg59 rfl ⟨_, .head⟩ rfl)<|zb rfl rfl c3<|z2 (y6 underlying59 rfl)<|zb rfl rfl c3<|z2 (yx rfl rfl)<|z2 (zPf rfl c3 rfl)<|z2 (zMb rfl)<|zr (s := 62) rfl (fun c4 => ?_) (fun c4 => ?_)
       ·refine z8 rfl rfl c4<|z8 rfl rfl c4<|z8 rfl rfl c4<|z8 rfl rfl c4<|z2 (zPt rfl c4 rfl)<|z6 ?_
        exact ⟨(), zR5, ⟨jb (by simp_all [few2] <;> grind), trivial⟩, zLe, trivial⟩
       ·refine zb rfl rfl c4<|z2 (zt underlying66 rfl sizeOf60 (by decide) rfl rfl)<|zb rfl rfl c4<|z2 (zx (c := .fro _ _) isAgg60 rfl ⟨_, .head⟩ rfl)<|zb rfl rfl c4<|z2 (y6 underlying60 rfl)<|zb rfl rfl c4<|z2 (yx rfl rfl)<|z2 (zPf rfl c4 rfl)<|z6 ?_
        exact ⟨(), zR5, ⟨jb (by simp_all [few2] <;> grind), trivial⟩, zLe, trivial⟩
     ·rintro _ _
      refine y4 rfl (fun c2 => ?_) (fun c2 => ?_)
      ·refine za<|z7 rfl<|z2 (zAb rfl)<|z6<|zf<|zo (x := .bool _) rfl ?_
       exact ⟨_, rfl, fun h => (by cases h), fun hl => absurd hl (fun hl => by obtain ⟨h1, h2, h3, _⟩ := hl.2.2.2.2.1 _ (qn hk1); unfold few2 at c2; simp at c2; omega)⟩
      ·have hsb : f.blocks[k].name.size ≤ 400 ∧ f.blocks[k].phis.length ≤ 400 ∧ f.blocks[k].insts.length ≤ 400 := by unfold few2 at c2; simp at c2; omega
       refine zg<|za<|z7 rfl<|z2 (zMi rfl)<|z2 (zt underlying66 rfl sizeOf9 (by decide) rfl rfl)<|z2 (zx (c := .str _) isAgg9 rfl ⟨_, .head⟩ rfl)<|z2 (Gv.lenT underlying9 rfl)<|z2 (zt underlying66 rfl sizeOf59 (by decide) rfl rfl)<|z2 (zx (c := .fro _ _) isAgg59 rfl ⟨_, .head⟩ rfl)<|z2 (y6 underlying59 rfl)<|z2 (zt underlying66 rfl sizeOf60 (by decide) rfl rfl)<|z2 (zx (c := .fro _ _) isAgg60 rfl ⟨_, .head⟩ rfl)<|z2 (y6 underlying60 rfl)<|z2 (yd rfl rfl (by unfold I64; omega))<|z2 (Gv.mul rfl rfl (by unfold I64; omega))<|z2 (yd rfl rfl (by unfold I64; omega))<|z2 (yd rfl rfl (by unfold I64; omega))<|z2 (zAi rfl)<|z6<|za<|za<|z7 rfl<|z2 (zt underlying66 rfl sizeOf59 (by decide) rfl rfl)<|z2 (zx (c := .fro _ _) isAgg59 rfl ⟨_, .head⟩ rfl)<|z2 (y6 underlying59 rfl)<|z2 (zMi rfl)<|z6<|zm<|ya (γ := Nat) [7, 46, 47, 48, 83, 84] (fun m => [(85, .int .i64 m), (3, .int .i64 (wV f.vars + wBs (f.blocks.take k) + (f.blocks[k].name.size + 10 * (f.blocks[k].phis.length + f.blocks[k].insts.length)) + wP (f.blocks[k].phis.take m) : Nat))]) (fun m => [(i7, .cells 66 (encBlk f.blocks[k]))]) (fun m => m ≤ f.blocks[k].phis.length ∧ wP (f.blocks[k].phis.take m) ≤ 800 * m ∧ ∀ p ∈ f.blocks[k].phis.take m, p.args.length ≤ 400 ∧ p.from_.length ≤ 400) (fun m => f.blocks[k].phis.length - m) 0 ⟨rfl, (congrArg (AV.int .i64) (by simp [wP] <;> omega)), trivial⟩ zLe (⟨qm _, by simp [wP], by simp⟩) ?_
       rintro m ⟨hm, hwp, hp⟩
       refine za<|z7 rfl<|z2 (yc rfl rfl)<|z6<|za<|zn rfl (fun cm => ?_) (fun cm => ?_)
       ·have hm1 : m < f.blocks[k].phis.length := by omega
        obtain ⟨hq1, hq2⟩ := hb3 _ (qn hm1)
        have hl6 := hq1.lt
        have hl7 := hq2.lt
        have hs2 := wP_succ hm1
        refine zg<|za<|zm<|za<|z7 rfl<|z2 (zz underlying59 sizeOf95 rfl rfl rfl (qj (by omega)))<|z2 (zj isAgg95 sizeOf95 rfl rfl)<|zq (cs := [.int .i64 0, .raw (.slice none 0 0), .raw (.slice none 0 0)]) zeroValue95 rfl rfl<|fun i9 => ze sizeOf95 rfl rfl rfl rfl rfl rfl .head rfl<|z6<|za<|za<|yi (γ := Unit) [3, 7, 9, 46, 47, 48, 83, 84, 85] (fun u => [(102, .bool (decide ((4000 : Int) < (wV f.vars + wBs (f.blocks.take k) + (f.blocks[k].name.size + 10 * (f.blocks[k].phis.length + f.blocks[k].insts.length)) + wP (f.blocks[k].phis.take m) : Nat)) || (decide ((400 : Int) < f.blocks[k].phis[m].args.length) || decide ((400 : Int) < f.blocks[k].phis[m].from_.length))))]) (fun u => [(i9, .cells 95 (encPhi f.blocks[k].phis[m])), (i7, .cells 66 (encBlk f.blocks[k]))]) (fun u => True) ?_ (fun _ _ h => h) ?_
        ·refine z7 rfl<|z2 (zMi rfl)<|z2 (yx rfl rfl)<|z2 (zMb rfl)<|zr (s := 91) rfl (fun c5 => ?_) (fun c5 => ?_)
         ·refine z8 rfl rfl c5<|z8 rfl rfl c5<|z8 rfl rfl c5<|z8 rfl rfl c5<|z2 (zPt rfl c5 rfl)<|z2 (zMb rfl)<|z8 rfl rfl rfl<|z8 rfl rfl rfl<|z8 rfl rfl rfl<|z8 rfl rfl rfl<|z2 (zPt rfl rfl rfl)<|z6 ?_
          exact ⟨(), zR9, ⟨jb (by simp_all <;> grind), trivial⟩, zLe, trivial⟩
         ·refine zb rfl rfl c5<|z2 (zt underlying95 rfl sizeOf23 (by decide) rfl rfl)<|zb rfl rfl c5<|z2 (zx (c := .fro _ _) isAgg23 rfl ⟨_, .head⟩ rfl)<|zb rfl rfl c5<|z2 (y6 underlying23 rfl)<|zb rfl rfl c5<|z2 (yx rfl rfl)<|z2 (zPf rfl c5 rfl)<|z2 (zMb rfl)<|zr (s := 97) rfl (fun c6 => ?_) (fun c6 => ?_)
          ·refine z8 rfl rfl c6<|z8 rfl rfl c6<|z8 rfl rfl c6<|z8 rfl rfl c6<|z2 (zPt rfl c6 rfl)<|z6 ?_
           exact ⟨(), zR9, ⟨jb (by simp_all <;> grind), trivial⟩, zLe, trivial⟩
          ·refine zb rfl rfl c6<|z2 (zt underlying95 rfl sizeOf23 (by decide) rfl rfl)<|zb rfl rfl c6<|z2 (zx (c := .fro _ _) isAgg23 rfl ⟨_, .head⟩ rfl)<|zb rfl rfl c6<|z2 (y6 underlying23 rfl)<|zb rfl rfl c6<|z2 (yx rfl rfl)<|z2 (zPf rfl c6 rfl)<|z6 ?_
           exact ⟨(), zR9, ⟨jb (by simp_all <;> grind), trivial⟩, zLe, trivial⟩
        ·rintro _ _
         refine y4 rfl (fun cp => ?_) (fun cp => ?_)
         ·refine za<|z7 rfl<|z2 (zAb rfl)<|z6<|zf<|zo (x := .bool _) rfl ?_
          exact ⟨_, rfl, fun h => (by cases h), fun hl => absurd hl (fun hl => by obtain ⟨_, _, _, h4, _⟩ := hl.2.2.2.2.1 _ (qn hk1); have h5 := h4 _ (qn hm1); have h9 := little_le hl hk1; have hwb : wB f.blocks[k] = f.blocks[k].name.size + 10 * (f.blocks[k].phis.length + f.blocks[k].insts.length) + wP f.blocks[k].phis + wX f.blocks[k].insts := rfl; have h10 := wP_take f.blocks[k].phis m; simp only [Bool.or_eq_true, qz] at cp; omega)⟩
         ·rcases Bool.or_eq_false_iff.1 cp with ⟨a1, a2⟩
          rcases Bool.or_eq_false_iff.1 a2 with ⟨a3, a4⟩
          have a3 := of_decide_eq_false a3
          have a4 := of_decide_eq_false a4
          refine zg<|z7 rfl<|z2 (zMi rfl)<|z2 (zt underlying95 rfl sizeOf23 (by decide) rfl rfl)<|z2 (zx (c := .fro _ _) isAgg23 rfl ⟨_, .head⟩ rfl)<|z2 (y6 underlying23 rfl)<|z2 (zt underlying95 rfl sizeOf23 (by decide) rfl rfl)<|z2 (zx (c := .fro _ _) isAgg23 rfl ⟨_, .head⟩ rfl)<|z2 (y6 underlying23 rfl)<|z2 (yd rfl rfl (by unfold I64; omega))<|z2 (yd rfl rfl (by unfold I64; omega))<|z2 (zAi rfl)<|z6<|z7 rfl<|z2 (yd rfl rfl (by unfold I64; omega))<|z2 (zMi rfl)<|z6 ?_
          exact ⟨m + 1, zR6, ⟨rfl, congrArg (AV.int .i64) (by rw [hs2]; omega), trivial⟩, ⟨_, (.drop (.refl _)), rfl⟩, ⟨hm1, by omega, forall_take hm1 hp ⟨by omega, by omega⟩⟩, by omega⟩
       ·obtain rfl : m = f.blocks[k].phis.length := by omega
        rw [qo] at hwp hp
        rw [qo]
        refine y8<|za<|za<|z7 rfl<|z2 (zt underlying66 rfl sizeOf60 (by decide) rfl rfl)<|z2 (zx (c := .fro _ _) isAgg60 rfl ⟨_, .head⟩ rfl)<|z2 (y6 underlying60 rfl)<|z2 (zMi rfl)<|z6<|zm<|ya (γ := Nat) [46, 47, 48, 114, 115] (fun m => [(116, .int .i64 m), (3, .int .i64 (wV f.vars + wBs (f.blocks.take k) + (f.blocks[k].name.size + 10 * (f.blocks[k].phis.length + f.blocks[k].insts.length)) + wP f.blocks[k].phis + wX (f.blocks[k].insts.take m) : Nat))]) (fun m => [(i7, .cells 66 (encBlk f.blocks[k]))]) (fun m => m ≤ f.blocks[k].insts.length ∧ wX (f.blocks[k].insts.take m) ≤ 400 * m ∧ ∀ p ∈ f.blocks[k].insts.take m, p.args.length ≤ 400) (fun m => f.blocks[k].insts.length - m) 0 ⟨rfl, (congrArg (AV.int .i64) (by simp [wX] <;> omega)), trivial⟩ zLe (⟨qm _, by simp [wX], by simp⟩) ?_
        rintro m ⟨hm, hwx, hx⟩
        refine za<|z7 rfl<|z2 (yc rfl rfl)<|z6<|za<|zn rfl (fun cm => ?_) (fun cm => ?_)
        ·have hm1 : m < f.blocks[k].insts.length := by omega
         have hq1 := hb4 _ (qn hm1)
         have hl6 := hq1.lt
         have hs2 := wX_succ hm1
         refine zg<|za<|zm<|za<|z7 rfl<|z2 (zz underlying60 sizeOf33 rfl rfl rfl (qj (by omega)))<|z2 (zj isAgg33 sizeOf33 rfl rfl)<|zq (cs := [.int .i64 0, .int .i64 0, .raw (.slice none 0 0), .int .i64 0]) zeroValue33 rfl rfl<|fun i11 => ze sizeOf33 rfl rfl rfl rfl rfl rfl .head rfl<|z6<|za<|za<|yi (γ := Unit) [3, 11, 46, 47, 48, 114, 115, 116] (fun u => [(127, .bool (decide ((4000 : Int) < (wV f.vars + wBs (f.blocks.take k) + (f.blocks[k].name.size + 10 * (f.blocks[k].phis.length + f.blocks[k].insts.length)) + wP f.blocks[k].phis + wX (f.blocks[k].insts.take m) : Nat)) || decide ((400 : Int) < f.blocks[k].insts[m].args.length)))]) (fun u => [(i11, .cells 33 (encInst f.blocks[k].insts[m])), (i7, .cells 66 (encBlk f.blocks[k]))]) (fun u => True) ?_ (fun _ _ h => h) ?_
         ·refine z7 rfl<|z2 (zMi rfl)<|z2 (yx rfl rfl)<|z2 (zMb rfl)<|zr (s := 122) rfl (fun c7 => ?_) (fun c7 => ?_)
          ·refine z8 rfl rfl c7<|z8 rfl rfl c7<|z8 rfl rfl c7<|z8 rfl rfl c7<|z2 (zPt rfl c7 rfl)<|z6 ?_
           exact ⟨(), zR8, ⟨jb (by simp_all <;> grind), trivial⟩, zLe, trivial⟩
          ·refine zb rfl rfl c7<|z2 (zt underlying33 rfl sizeOf23 (by decide) rfl rfl)<|zb rfl rfl c7<|z2 (zx (c := .fro _ _) isAgg23 rfl ⟨_, .head⟩ rfl)<|zb rfl rfl c7<|z2 (y6 underlying23 rfl)<|zb rfl rfl c7<|z2 (yx rfl rfl)<|z2 (zPf rfl c7 rfl)<|z6 ?_
           exact ⟨(), zR8, ⟨jb (by simp_all <;> grind), trivial⟩, zLe, trivial⟩
         ·rintro _ _
          refine y4 rfl (fun cp => ?_) (fun cp => ?_)
          ·refine za<|z7 rfl<|z2 (zAb rfl)<|z6<|zf<|zo (x := .bool _) rfl ?_
           exact ⟨_, rfl, fun h => (by cases h), fun hl => absurd hl (fun hl => by obtain ⟨_, _, _, _, h4⟩ := hl.2.2.2.2.1 _ (qn hk1); have h5 := h4 _ (qn hm1); have h9 := little_le hl hk1; have hwb : wB f.blocks[k] = f.blocks[k].name.size + 10 * (f.blocks[k].phis.length + f.blocks[k].insts.length) + wP f.blocks[k].phis + wX f.blocks[k].insts := rfl; have h10 := wX_take f.blocks[k].insts m; simp only [Bool.or_eq_true, qz] at cp; omega)⟩
          ·rcases Bool.or_eq_false_iff.1 cp with ⟨a1, a2⟩
           have a2 := of_decide_eq_false a2
           refine zg<|z7 rfl<|z2 (zMi rfl)<|z2 (zt underlying33 rfl sizeOf23 (by decide) rfl rfl)<|z2 (zx (c := .fro _ _) isAgg23 rfl ⟨_, .head⟩ rfl)<|z2 (y6 underlying23 rfl)<|z2 (yd rfl rfl (by unfold I64; omega))<|z2 (zAi rfl)<|z6<|z7 rfl<|z2 (yd rfl rfl (by unfold I64; omega))<|z2 (zMi rfl)<|z6 ?_
           exact ⟨m + 1, zR5, ⟨rfl, congrArg (AV.int .i64) (by rw [hs2]; omega), trivial⟩, ⟨_, (.drop (.refl _)), rfl⟩, ⟨hm1, by omega, forall_take hm1 hx (by omega)⟩, by omega⟩
        ·obtain rfl : m = f.blocks[k].insts.length := by omega
         rw [qo] at hwx hx
         rw [qo]
         refine y8<|za<|z7 rfl<|z2 (zMi rfl)<|z2 (yx rfl rfl)<|z6<|zn rfl (fun cz => ?_) (fun cz => ?_)
         ·refine za<|z7 rfl<|z2 (zAb rfl)<|z6<|zf<|zo (x := .bool _) rfl ?_
          exact ⟨_, rfl, fun h => (by cases h), fun hl => absurd hl (fun hl => by have h9 := little_le hl hk1; have hwb : wB f.blocks[k] = f.blocks[k].name.size + 10 * (f.blocks[k].phis.length + f.blocks[k].insts.length) + wP f.blocks[k].phis + wX f.blocks[k].insts := rfl; omega)⟩
         ·have hwb : wB f.blocks[k] = f.blocks[k].name.size + 10 * (f.blocks[k].phis.length + f.blocks[k].insts.length) + wP f.blocks[k].phis + wX f.blocks[k].insts := rfl
          refine zg<|z7 rfl<|z2 (yd rfl rfl (by unfold I64; omega))<|z2 (zMi rfl)<|z6 ?_
          exact ⟨k + 1, zR2, ⟨rfl, congrArg (AV.int .i64) (by rw [hs]; omega), trivial⟩, ⟨_, (.drop (.refl _)), rfl⟩, ⟨hk1, by omega, by omega, forall_take hk1 hb ⟨hsb.1, hsb.2.1, hsb.2.2, hp, hx⟩⟩, by omega⟩
    ·obtain rfl : k = f.blocks.length := by omega
     rw [qo] at hw2 hw3 hb
     refine y8<|za<|z7 rfl<|z2 (zAb rfl)<|z6<|zf<|zo (x := .bool _) rfl ?_
     exact ⟨_, rfl, fun _ => ⟨hsz.1, hsz.2.1, hsz.2.2, hv, hb, fun hne => hw2 (List.length_pos_iff.2 hne)⟩, fun _ => rfl⟩
theorem lawShaped2_spec (f : PFunc) (hf : okFunc f) (hn : okNames f) (hL : Letters E) : AFun Tryz.prog E 119 [.agg (encF f)] (.bool (decide (ShapedP f))) := by
 refine zp func119 rfl (by decide) rfl<|za<|z7 rfl<|y7 (cs := _) rfl rfl rfl<|z2 (zAb rfl)<|z6<|za<|z7 rfl<|z2 (zj isAgg26 sizeOf26 rfl rfl)<|zd (refShaped_spec _ (by assumption) (by assumption) hL) rfl<|z2 (zAb rfl)<|z6<|zf<|zo (x := .bool _) rfl ?_
 rfl
noncomputable def fewB (f : PFunc) : Bool := @decide (little f) (Classical.propDecidable _)
theorem fewB_iff (f : PFunc) : fewB f = true ↔ little f := by unfold fewB; exact @decide_eq_true_iff _ (Classical.propDecidable _)
theorem fewT_spec (f : PFunc) (hf : wFunc f) : AFun Tryz.prog E 12 [.agg (encF f)] (.bool (fewB f)) :=
 (fewIff_spec f hf).mono fun x O' ⟨b, e, h⟩ => by
  rw [e]
  congr 1
  rw [qt, h, fewB_iff]
theorem lawTyped8_spec (f : PFunc) (hf : small f) (hL : Letters E) : AFun Tryz.prog E 75 [.agg (encF f)] (.bool (typedB f)) := by
 have hs := lawShaped2_spec (E := E) f hf.ok hf.names hL
 refine zp func75 rfl (by decide) rfl<|za<|z7 rfl<|y7 (cs := _) rfl rfl rfl<|z2 (zAb rfl)<|z6<|za<|z7 rfl<|z2 (zj isAgg26 sizeOf26 rfl rfl)<|zd (hs) rfl ?_
 by_cases g4 : ShapedP f
 ·refine z2 (zMb rfl)<|zb rfl rfl (qw g4)<|z2 (zj isAgg26 sizeOf26 rfl rfl)<|zb rfl rfl (qw g4)<|zd (refTyped_spec f hf g4) rfl<|z2 (zPt rfl (qw g4) rfl)<|z2 (zAb rfl)<|z6<|zf<|zo (x := .bool _) rfl ?_
  exact jb (by unfold typedB; rw [shapedB_eq, qw g4]; rfl)
 ·refine z2 (zMb rfl)<|z8 rfl rfl (qx g4)<|z8 rfl rfl (qx g4)<|z2 (zPf rfl (qx g4) rfl)<|z2 (zAb rfl)<|z6<|zf<|zo (x := .bool _) rfl ?_
  exact jb (by unfold typedB; rw [shapedB_eq, qx g4]; rfl)
theorem lawTyped_spec (f : PFunc) (hw : wFunc f) (hL : Letters E) : AFun Tryz.prog E 37 [.agg (encF f)] (.bool (fewB f && typedB f)) := by
 refine zp func37 rfl (by decide) rfl<|za<|z7 rfl<|y7 (cs := _) rfl rfl rfl<|z2 (zAb rfl)<|z6<|za<|z7 rfl<|z2 (zj isAgg26 sizeOf26 rfl rfl)<|zd (fewT_spec f hw) rfl<|z2 (zMb rfl)<|zr (s := 5) rfl (fun g => ?_) (fun g => ?_)
 ·refine zb rfl rfl g<|z2 (zj isAgg26 sizeOf26 rfl rfl)<|zb rfl rfl g<|zd (lawTyped8_spec f ((fewB_iff f).1 g).small hL) rfl<|z2 (zPt rfl g rfl)<|z2 (zAb rfl)<|z6<|zf<|zo (x := .bool _) rfl ?_
  exact jb (by rw [g]; rfl)
 ·refine z8 rfl rfl g<|z8 rfl rfl g<|z2 (zPf rfl g rfl)<|z2 (zAb rfl)<|z6<|zf<|zo (x := .bool _) rfl ?_
  exact jb (by rw [g]; rfl)
noncomputable def lawSing (f : PFunc) : Bool := fewB f && typedB f && singB f
theorem and3 {a b : Bool} (h : (a && b) = true) : a = true ∧ b = true := by simpa using h
theorem singR_typed {f : PFunc} (h : typedB f = true) : singR f = singB f :=
 singR_eq (typedB_ends h) fun b hb p hp c hc => by
  have h1 := ((typedB_shaped h).2.2.2.2.2 b hb).1 p hp
  have h2 := List.all_eq_true.1 h1.2.2.2.2 c hc
  simpa [hasB] using h2
theorem lawSingle_spec (f : PFunc) (hw : wFunc f) (hL : Letters E) : AFun Tryz.prog E 24 [.agg (encF f)] (.bool (lawSing f)) := by
 refine zp func24 rfl (by decide) rfl<|za<|z7 rfl<|y7 (cs := _) rfl rfl rfl<|z2 (zAb rfl)<|z6<|za<|z7 rfl<|z2 (zj isAgg26 sizeOf26 rfl rfl)<|zd (lawTyped_spec f hw hL) rfl<|z2 (zMb rfl)<|zr (s := 5) rfl (fun g => ?_) (fun g => ?_)
 ·refine zb rfl rfl g<|z2 (zj isAgg26 sizeOf26 rfl rfl)<|zb rfl rfl g<|zd (refSingle_spec f (typedB_ends (and3 g).2) ((fewB_iff f).1 (and3 g).1).small (typedB_shaped (and3 g).2)) rfl<|z2 (zPt rfl g rfl)<|z2 (zAb rfl)<|z6<|zf<|zo (x := .bool _) rfl ?_
  exact jb (by unfold lawSing; rw [g, singR_typed (and3 g).2]; rfl)
 ·refine z8 rfl rfl g<|z8 rfl rfl g<|z2 (zPf rfl g rfl)<|z2 (zAb rfl)<|z6<|zf<|zo (x := .bool _) rfl ?_
  exact jb (by unfold lawSing; rw [g]; rfl)
end Go.Proofs.YtjnpcfpecilejaaGreatDoor
namespace Go.Proofs.YtjnpcfpecilejaaGreatDoor
open Go.Proofs.Tryz
open Go.Proofs Go.Lib Go.Shelf Go.RowKit
theorem pl125 : Places Tryz.prog 125 #[(0, 3), (3, 1), (4, 1), (5, 1)] [.raw (.slice none 0 0), .raw (.slice none 0 0), .raw (.slice none 0 0), .raw (.slice none 0 0), .raw (.slice none 0 0), .raw (.slice none 0 0)] := ⟨_, _, underlying125, zeroValue125, fun w => by kernel_rfl, rfl⟩
variable {E : World}
set_option maxRecDepth 20000
theorem matching_spec (op : Int) : AFun Tryz.prog E 112 [.int .i64 op] (.int .i64 (matchQ op)) := by
 refine zp func112 rfl (by decide) rfl<|za<|z7 rfl<|z2 (zAi rfl)<|z6<|za<|za<|z7 rfl<|z2 (zMi rfl)<|z6<|zm<|za<|za<|z7 rfl<|z2 (zy rfl rfl)<|z2 (zAb rfl)<|z6<|yi (γ := Bool) [0] (fun u => [(4, .bool u)]) (fun u => []) (fun u => u = decide (op = 2 ∨ op = 3 ∨ op = 4)) ?_ (fun _ _ h => h) ?_
 ·refine y4 rfl (fun c1 => ?_) (fun c1 => ?_)
  ·refine zg ?_
   exact ⟨_, zR1, zR1, zLe, by simp_all⟩
  ·refine za<|z7 rfl<|z2 (zy rfl rfl)<|z2 (zAb rfl)<|z6<|y4 rfl (fun c2 => ?_) (fun c2 => ?_)
   ·refine zg ?_
    exact ⟨_, zR1, zR1, zLe, by simp_all⟩
   ·refine z7 rfl<|z2 (zy rfl rfl)<|z2 (zAb rfl)<|z6 ?_
    exact ⟨_, zR1, zR1, zLe, by simp_all⟩
 ·rintro u hu
  subst hu
  refine zn rfl (fun c => ?_) (fun c => ?_)
  ·refine za<|z7 rfl<|z2 (zMi rfl)<|z2 (Gv.addW rfl rfl)<|z2 (Gv.subW rfl rfl)<|z2 (zAi rfl)<|z6<|zf<|zo (x := .int _ _) rfl ?_
   rw [matchQ, if_pos c, wrap_fit (z := 21 + op) (by unfold is64; omega), wrap_fit (by unfold is64; omega)]; congr 1; omega
  ·refine zg<|za<|z7 rfl<|z2 (zAi rfl)<|z6<|zf<|zo (x := .int _ _) rfl ?_
   rw [matchQ, if_neg c]
def mapsTo (f : PFunc) (es : List (Int × List Plc)) : Prop := ∀ q, mg q es = plTo f f.blocks.length q
set_option maxHeartbeats 4000000 in
theorem checks_spec (f : PFunc) (hf : small f) : ACall Tryz.prog E 111 [.agg (encF f)] [] fun x O => ∃ g : Nat × List (Int × List Plc), x = mref g.1 ∧ O = [(0, mfroO eP g.1 g.2)] ∧ mapsTo f g.2 := by
 have hn := hf.2.2.1
 have hpl : ∀ q k, k ≤ f.blocks.length → (plTo f k q).length ≤ k * 1000 := fun q k hk => plTo_len (fun b hb => (hf.2.2.2.2 b hb).2.2.1) k hk
 refine ACall.exact (γ := Nat × List (Int × List Plc)) (x := fun g => mref g.1) (M := fun g => [(0, mfroO eP g.1 g.2)]) (p := fun g => mapsTo f g.2)<|zp func111 rfl (by decide) rfl<|za<|z7 rfl<|y7 (cs := _) rfl rfl rfl<|z2 (y1 (v := .raw _) rfl)<|z6<|za<|z7 rfl<|AOps.makeMapN eP 109<|fun b8 => z2 (y1 (v := mref _) rfl)<|z6<|za<|za<|z7 rfl<|z2 (zc underlying26 rfl sizeOf24 (by decide) rfl rfl)<|z2 (zLf isAgg24 rfl)<|z2 (y6 underlying24 rfl)<|z2 (zMi rfl)<|z6<|zm<|ya (γ := Nat × List (Int × List Plc)) [3, 10, 11] (fun g => [(12, .int .i64 g.1)]) (fun g => [(0, mnestO eP 109 b8 g.2)]) (fun g => g.1 ≤ f.blocks.length ∧ ∀ q, mg q g.2 = plTo f g.1 q) (fun g => f.blocks.length - g.1) (0, []) zR1 zLe (⟨qm _, fun q => rfl⟩) ?_
 rintro ⟨i, es⟩ ⟨hi, hes⟩
 try dsimp only at *
 refine za<|z7 rfl<|z2 (yc rfl rfl)<|z6<|za<|zn rfl (fun ci => ?_) (fun ci => ?_)
 ·have hi2 : i < f.blocks.length := by simp at ci; omega
  obtain ⟨b, hbi⟩ : ∃ b, f.blocks[i] = b := ⟨_, rfl⟩
  have hget : f.blocks[i]? = some b := by rw [qj hi2, hbi]
  obtain ⟨hb0, hb1, hb2, hb3, hb4⟩ := hf.2.2.2.2 b (hbi ▸ qn hi2)
  refine zg<|za<|zm<|za<|z7 rfl<|z2 (zMi rfl)<|z2 (zz (j := i) underlying24 sizeOf66 rfl rfl rfl hget)<|z2 (zj isAgg66 sizeOf66 rfl rfl)<|zq (cs := [.str ⟨#[]⟩, .raw (.slice none 0 0), .raw (.slice none 0 0), .int .i64 0, .int .i64 0, .int .i64 0, .int .i64 0]) zeroValue66 rfl rfl<|fun i5 => z2 (zAi rfl)<|ze sizeOf66 rfl rfl rfl rfl rfl rfl .head rfl<|zi (yh (t := 5) rfl .head)<|z6<|za<|z7 rfl<|z2 (zc underlying66 rfl sizeOf60 (by decide) rfl rfl)<|z2 (zLf isAgg60 rfl)<|z2 (y6 underlying60 rfl)<|z2 (zMi rfl)<|z6<|zm<|ya (γ := Nat × List (Int × List Plc)) [3, 4, 10, 11, 12, 18, 19] (fun g => [(20, .int .i64 g.1)]) (fun g => [(0, mnestO eP 109 b8 g.2)]) (fun g => g.1 ≤ b.insts.length ∧ ∀ q, mg q g.2 = plTo f i q ++ plIn q i (b.insts.take g.1)) (fun g => b.insts.length - g.1) (0, es) zR1 zLe (⟨qm _, fun q => by rw [hes q]; unfold plIn; split <;> simp⟩) ?_
  rintro ⟨j, es⟩ ⟨hj, hes⟩
  try dsimp only at *
  refine za<|z7 rfl<|z2 (yc rfl rfl)<|z6<|za<|zn rfl (fun cj => ?_) (fun cj => ?_)
  ·have hj2 : j < b.insts.length := by simp at cj; omega
   obtain ⟨z, hz⟩ : ∃ z, b.insts[j] = z := ⟨_, rfl⟩
   have hstep : ∀ q, plTo f i q ++ plIn q i (b.insts.take (j + 1)) = mg q es ++ if isChk q ∧ z.op = q then [((i : Int), (j : Int))] else [] := fun q => by rw [plIn_succ q i hj2, hz, ← ql, ← hes q]
   have hlen : ∀ q, (mg q es).length ≤ 2000000 := fun q => by
    have h1 := hpl q i hi
    have h2 := plIn_len q i (b.insts.take j)
    rw [List.length_take] at h2
    rw [hes q, qp]; omega
   refine zg<|za<|zm<|za<|z7 rfl<|z2 (zMi rfl)<|z2 (zz (j := j) underlying60 sizeOf33 rfl rfl rfl (by rw [qj hj2, hz]))<|z2 (zj isAgg33 sizeOf33 rfl rfl)<|zq (cs := [.int .i64 0, .int .i64 0, .raw (.slice none 0 0), .int .i64 0]) zeroValue33 rfl rfl<|fun i7 => z2 (zAi rfl)<|ze sizeOf33 rfl rfl rfl rfl rfl rfl .head rfl<|zi (yh (t := 7) rfl .head)<|z6<|za<|yi (γ := Bool) [3, 4, 6, 7, 10, 11, 12, 18, 19, 20] (fun u => [(32, .bool u)]) (fun u => [(0, mnestO eP 109 b8 es)]) (fun u => u = decide (isChk z.op)) ?_ (fun _ _ h => h) ?_
   ·refine z7 rfl<|z2 (zc underlying33 rfl sizeOf31 (by decide) rfl rfl)<|z2 (zLi isAgg31 rfl)<|z2 (q8 rfl rfl)<|z2 (zMb rfl)<|zr (s := 28) rfl (fun c1 => ?_) (fun c1 => ?_)
    ·refine zb rfl rfl c1<|z2 (zc underlying33 rfl sizeOf31 (by decide) rfl rfl)<|zb rfl rfl c1<|z2 (zLi isAgg31 rfl)<|zb rfl rfl c1<|z2 (Gv.leq rfl rfl)<|z2 (zPt rfl c1 rfl)<|z6 ?_
     exact ⟨_, zR10, zR1, zLe, decide_eq_decide.2 (by unfold isChk; have := of_decide_eq_true c1; omega)⟩
    ·refine z8 rfl rfl c1<|z8 rfl rfl c1<|z8 rfl rfl c1<|z2 (zPf rfl c1 rfl)<|z6 ?_
     exact ⟨_, zR10, zR1, zLe, (qx (by unfold isChk; have := of_decide_eq_false c1; omega)).symm⟩
   ·rintro u hu
    subst hu
    refine zn rfl (fun cc => ?_) (fun cc => ?_)
    ·have hlz := hlen z.op
     refine yi (γ := Unit) [3, 4, 10, 11, 12, 18, 19, 20] (fun u => []) (fun u => [(0, mnestO eP 109 b8 (ms z.op (mg z.op es ++ [((i : Int), (j : Int))]) es))]) (fun u => True) ?_ (fun _ _ h => h) ?_
     ·refine zw (fun j => false) (by kernel_rfl) rfl (zu (.rest _))<|zTk (i := 0) rfl (y5 (v := mref _) rfl)<|zTk (i := 1) rfl (zc underlying33 rfl sizeOf31 (by decide) rfl rfl)<|zTk (i := 2) rfl (zLi isAgg31 rfl)<|zTk (i := 3) rfl (y5 (v := mref _) rfl)<|zTk (i := 4) rfl (zc underlying33 rfl sizeOf31 (by decide) rfl rfl)<|zTk (i := 5) rfl (zLi isAgg31 rfl)<|zTk (i := 7) rfl (zMi rfl)<|zTk (i := 8) rfl (zMi rfl)<|zTk (i := 9) rfl (y3 (cps := [(0, [_]), (1, [_])]) (rs := [_, _]) pl109 rfl rfl rfl)<|yp (i := 6) (j := 10) rfl rfl (by kernel_rfl) ?_ ?_
      ·refine AOps.mapTake underlying178 underlying31 zeroValue102 rfl rfl .head<|fun i39 => z6<|zOn (i := 10) rfl<|y9 (rows := [[_, _]]) ps102_1 rfl rfl rfl rfl rfl<|z6<|zOn (i := 11) rfl<|yz (k := 2) underlying102 Tryz.type109 rfl rfl rfl rfl rfl (fun _ => .head) (by rw [eP.av_len]; rfl) (by decide) rfl (by show (_ + 1) * 16 ≤ _; omega) (by show _ + 1 ≤ _; omega)<|fun i44 => z6<|zOn (i := 12) rfl<|AOps.mapPut (r := mg z.op es ++ [((i : Int), (j : Int))]) underlying178 underlying31 rfl rfl rfl .head .head rfl (eP.av_push (mg z.op es) ((i : Int), (j : Int))) (by rw [qp]; rfl)<|z6<|zDn ?_
       exact ⟨(), zR8, trivial, zLe, trivial⟩
      ·refine y9 (rows := [[_, _]]) ps102_1 rfl rfl rfl rfl rfl<|z6<|zOn (i := 6) rfl<|AOps.mapTake underlying178 underlying31 zeroValue102 rfl rfl .head<|fun i39 => z6<|zOn (i := 11) rfl<|yz (k := 2) underlying102 Tryz.type109 rfl rfl rfl rfl rfl (fun _ => .head) (by rw [eP.av_len]; rfl) (by decide) rfl (by show (_ + 1) * 16 ≤ _; omega) (by show _ + 1 ≤ _; omega)<|fun i44 => z6<|zOn (i := 12) rfl<|AOps.mapPut (r := mg z.op es ++ [((i : Int), (j : Int))]) underlying178 underlying31 rfl rfl rfl .head .head rfl (eP.av_push (mg z.op es) ((i : Int), (j : Int))) (by rw [qp]; rfl)<|z6<|zDn ?_
       exact ⟨(), zR8, trivial, zLe, trivial⟩
     ·rintro _ _
      refine z7 rfl<|z2 (yd rfl rfl (by unfold I64; omega))<|z2 (zMi rfl)<|z6 ?_
      exact ⟨(j + 1, ms z.op (mg z.op es ++ [((i : Int), (j : Int))]) es), zR7, zR1, zLe, ⟨hj2, fun q => by rw [hstep, mg_ms]; by_cases e : q = z.op; rw [if_pos e, if_pos ⟨e ▸ cc, e.symm⟩, e]; rw [if_neg e, if_neg (fun h : isChk q ∧ z.op = q => e h.2.symm), List.append_nil]⟩, by dsimp only; omega⟩
    ·refine zg<|z7 rfl<|z2 (yd rfl rfl (by unfold I64; omega))<|z2 (zMi rfl)<|z6 ?_
     exact ⟨(j + 1, es), zR7, zR1, zLe, ⟨hj2, fun q => by rw [hstep, if_neg (fun h : isChk q ∧ z.op = q => cc (h.2 ▸ h.1)), List.append_nil]⟩, by dsimp only; omega⟩
  ·have hjn : j = b.insts.length := by simp at cj; omega
   subst hjn
   refine y8<|z7 rfl<|z2 (yd rfl rfl (by unfold I64; omega))<|z2 (zMi rfl)<|z6 ?_
   exact ⟨(i + 1, es), zR3, zR1, zLe, ⟨hi2, fun q => by rw [hes q, qo, plTo_succ q hi2, hbi]⟩, by dsimp only; omega⟩
 ·have hin : i = f.blocks.length := by simp at ci; omega
  subst hin
  refine y8<|yl (GStep.mapKnow .head)<|za<|z7 rfl<|z2 (y5 (v := mref _) rfl)<|z2 (y1 (v := mref _) rfl)<|z6<|zf<|zo (x := mref _) rfl ?_
  exact ⟨(b8, es), rfl, ⟨_, .refl _, rfl⟩, hes⟩
def lookR (f : PFunc) (x : AV) (O : OL) : Prop := ∃ iv : Nat, x = .tup [.po iv 0, .int .i64 0] ∧ O = [(iv, .cells 125 (viewL f (chkL f) (.raw (.slice none 0 0))))]
theorem look_bad (f : PFunc) (hf : small f) (hL : Letters E) (h : (typedB f && singB f) = false) : AFun Tryz.prog E 67 [.agg (encF f)] (.tup [.raw (.pointer none), .int .i64 3]) := by
 have hR := SingRight_spec (E := E) f hf hL
 rw [h] at hR
 refine zp func67 rfl (by decide) rfl<|za<|z7 rfl<|y7 (cs := _) rfl rfl rfl<|z2 (y1 (v := .raw _) rfl)<|z2 (zAi rfl)<|z6<|za<|za<|z7 rfl<|z2 (zj isAgg26 sizeOf26 rfl rfl)<|zd (hR) rfl<|z2 (zAi rfl)<|z6<|za<|z7 rfl<|z2 (zMi rfl)<|z2 (yq rfl rfl)<|z6<|yy rfl rfl<|za<|z7 rfl<|z2 (zMi rfl)<|z2 (y1 (v := .raw _) rfl)<|z2 (zAi rfl)<|z6<|zf<|qd (x := .raw _) (y := .int _ _) rfl rfl ?_
 rfl
set_option maxHeartbeats 8000000 in
theorem look_ok (f : PFunc) (hf : small f) (hL : Letters E) (h : (typedB f && singB f) = true) : ACall Tryz.prog E 67 [.agg (encF f)] [] (lookR f) := by
 have hn := hf.2.2.1
 have hvn := hf.1
 have hR := SingRight_spec (E := E) f hf hL
 rw [h] at hR
 have ht := (and3 h).1
 have hs := (and3 h).2
 have hE := typedB_ends ht
 have hS := typedB_shaped ht
 have honce : OnceP f := (onceB_iff f).1 (by unfold singB at hs; simp only [qy] at hs; exact hs.2.2.1)
 refine ACall.exact (γ := Nat) (x := fun iv => .tup [.po iv 0, .int .i64 0]) (M := fun iv => [(iv, .cells 125 (viewL f (chkL f) (.raw (.slice none 0 0))))]) (p := fun _ => True) ?_ |>.mono fun x O ⟨iv, h1, h2, _⟩ => ⟨iv, h1, h2⟩
 refine zp func67 rfl (by decide) rfl<|za<|z7 rfl<|y7 (cs := _) rfl rfl rfl<|z2 (y1 (v := .raw _) rfl)<|z2 (zAi rfl)<|z6<|za<|za<|z7 rfl<|z2 (zj isAgg26 sizeOf26 rfl rfl)<|zd (hR) rfl<|z2 (zAi rfl)<|z6<|za<|z7 rfl<|z2 (zMi rfl)<|z2 (yq rfl rfl)<|z6<|yu rfl rfl<|zg<|za<|z7 rfl<|z2 (zj isAgg26 sizeOf26 rfl rfl)<|zd (New_spec f hf hL ht) rfl<|z2 (y5 (v := .tup _) rfl)<|z2 (yj (v := .pf _) rfl rfl)<|z2 (yj (v := .int _ _) rfl rfl)<|z2 (y1 (v := .pf _) rfl)<|z2 (zAi rfl)<|z6<|za<|za<|z7 rfl<|z2 (zMi rfl)<|z2 (yq rfl rfl)<|z6<|yu rfl rfl<|zg<|za<|yi (γ := Nat × Nat) [1, 5] (fun z => [(7, .po z.1 0)]) (fun z => [(z.1, .cells 125 (encF f ++ [.fro 2 ((makersT f).map eP.row), .own z.2 f.vars.length, .raw (.slice none 0 0)])), (z.2, .grow 1 4 (cB (List.replicate f.vars.length false)))]) (fun z => True) ?_ (fun _ _ h => h) ?_
 ·refine zw (fun j => false) (by kernel_rfl) rfl (zu (.rest _))<|zTk (i := 0) rfl (zj isAgg26 sizeOf26 rfl rfl)<|zTk (i := 1) rfl (zj isAgg26 sizeOf26 rfl rfl)<|zTk (i := 3) rfl (zc underlying26 rfl sizeOf22 (by decide) rfl rfl)<|zTk (i := 4) rfl (zLf isAgg22 rfl)<|zTk (i := 5) rfl (y6 underlying22 rfl)<|yp (i := 2) (j := 6) rfl rfl (by kernel_rfl) ?_ ?_
  ·refine zd (Makers_spec f hf hL ht) rfl<|z6<|zOn (i := 6) rfl<|AOps.makeB (m := f.vars.length) underlying111 Tryz.type4 rfl rfl rfl rfl rfl (by simp) (by simp) (by show (1 : Int) * _ ≤ _; omega) (by omega)<|fun i35 => z6<|zTk (i := 7) rfl (y3 (cps := [(0, [_, _, _]), (1, [_]), (2, [_])]) (rs := [_, _, _, _, _, .raw (.slice none 0 0)]) pl125 rfl rfl rfl)<|zOn (i := 8) rfl<|yo (cs := _) rfl rfl rfl rfl<|fun i37 => z6<|zTk (i := 9) rfl (y1 (v := .po _ _) rfl)<|zDn ?_
   exact ⟨(i37, i35), zR2, zR1, zLe, trivial⟩
  ·refine AOps.makeB (m := f.vars.length) underlying111 Tryz.type4 rfl rfl rfl rfl rfl (by simp) (by simp) (by show (1 : Int) * _ ≤ _; omega) (by omega)<|fun i35 => z6<|zOn (i := 2) rfl<|zd (Makers_spec f hf hL ht) rfl<|z6<|zTk (i := 7) rfl (y3 (cps := [(0, [_, _, _]), (1, [_]), (2, [_])]) (rs := [_, _, _, _, _, .raw (.slice none 0 0)]) pl125 rfl rfl rfl)<|zOn (i := 8) rfl<|yo (cs := _) rfl rfl rfl rfl<|fun i37 => z6<|zTk (i := 9) rfl (y1 (v := .po _ _) rfl)<|zDn ?_
   exact ⟨(i37, i35), zR2, zR1, zLe, trivial⟩
 ·rintro ⟨iv, ck⟩ _
  refine za<|z7 rfl<|z2 (zj isAgg26 sizeOf26 rfl rfl)<|yb rfl (zu (.r (.r (.rest _)))) (checks_spec f hf) ?_
  rintro r39 O39 ⟨⟨mb, es⟩, rfl, rfl, hes⟩
  refine z2 (y1 (v := mref _) rfl)<|z6<|za<|za<|z7 rfl<|z2 (zc underlying26 rfl sizeOf24 (by decide) rfl rfl)<|z2 (zLf isAgg24 rfl)<|z2 (y6 underlying24 rfl)<|z2 (zMi rfl)<|z6<|yl (zh (zl (.tail (.tail .head))))<|yl (zh (zl (.tail (.tail .head))))<|zm<|ya (γ := Nat × List Bool) [1, 5, 7, 8, 41, 42] (fun g => [(43, .int .i64 g.1)]) (fun g => [(iv, .cells 125 (encF f ++ [.fro 2 ((makersT f).map eP.row), .own ck f.vars.length, .raw (.slice none 0 0)])), (ck, .grow 1 4 (cB g.2)), (0, mfroO eP mb es)]) (fun g => g.1 ≤ f.blocks.length ∧ g.2.length = f.vars.length ∧ ∀ v : Nat, v < f.vars.length → (gb g.2 v = true ↔ Done f g.1 0 v)) (fun g => f.blocks.length - g.1) (0, List.replicate f.vars.length false) zR1 zLe (⟨qm _, by simp, fun v hv => by rw [gb_nat, List.getElem?_replicate, if_pos hv]; simpa using Done.zero f v⟩) ?_
  rintro ⟨i, L⟩ ⟨hi, hLl, hLd⟩
  try dsimp only at *
  refine za<|z7 rfl<|z2 (yc rfl rfl)<|z6<|za<|zn rfl (fun ci => ?_) (fun ci => ?_)
  ·have hi2 : i < f.blocks.length := by simp at ci; omega
   obtain ⟨b, hbi⟩ : ∃ b, f.blocks[i] = b := ⟨_, rfl⟩
   have hget : f.blocks[i]? = some b := by rw [qj hi2, hbi]
   have hmem : b ∈ f.blocks := hbi ▸ qn hi2
   obtain ⟨hb0, hb1, hb2, hb3, hb4⟩ := hf.2.2.2.2 b hmem
   obtain ⟨hPh, hIn, hTm⟩ := hS.2.2.2.2.2 b hmem
   refine zg<|za<|zm<|za<|z7 rfl<|z2 (zMi rfl)<|z2 (zz (j := i) underlying24 sizeOf66 rfl rfl rfl hget)<|z2 (zj isAgg66 sizeOf66 rfl rfl)<|zq (cs := [.str ⟨#[]⟩, .raw (.slice none 0 0), .raw (.slice none 0 0), .int .i64 0, .int .i64 0, .int .i64 0, .int .i64 0]) zeroValue66 rfl rfl<|fun i10 => z2 (zAi rfl)<|ze sizeOf66 rfl rfl rfl rfl rfl rfl .head rfl<|zi (yh (t := 10) rfl .head)<|z6<|za<|z7 rfl<|z2 (zc underlying66 rfl sizeOf60 (by decide) rfl rfl)<|z2 (zLf isAgg60 rfl)<|z2 (y6 underlying60 rfl)<|z2 (zMi rfl)<|z6<|zm<|ya (γ := Nat × List Bool) [1, 5, 7, 8, 9, 41, 42, 43, 49, 50] (fun g => [(51, .int .i64 g.1)]) (fun g => [(iv, .cells 125 (encF f ++ [.fro 2 ((makersT f).map eP.row), .own ck f.vars.length, .raw (.slice none 0 0)])), (ck, .grow 1 4 (cB g.2)), (0, mfroO eP mb es)]) (fun g => g.1 ≤ b.insts.length ∧ g.2.length = f.vars.length ∧ ∀ v : Nat, v < f.vars.length → (gb g.2 v = true ↔ Done f i g.1 v)) (fun g => b.insts.length - g.1) (0, L) zR1 zLe (⟨qm _, hLl, hLd⟩) ?_
   rintro ⟨j, L⟩ ⟨hj, hLl, hLd⟩
   try dsimp only at *
   refine za<|z7 rfl<|z2 (yc rfl rfl)<|z6<|za<|zn rfl (fun cj => ?_) (fun cj => ?_)
   ·have hj2 : j < b.insts.length := by simp at cj; omega
    obtain ⟨z, hz⟩ : ∃ z, b.insts[j] = z := ⟨_, rfl⟩
    have hzg : b.insts[j]? = some z := by rw [qj hj2, hz]
    have hzm : z ∈ b.insts := hz ▸ qn hj2
    have hI := instP_F (hIn z hzm)
    have hzl := hb4 z hzm
    have hstep := fun v : Int => Done.step (f := f) hget hzg v
    have hmq := hes (matchQ z.op)
    obtain ⟨ps, hps⟩ : ∃ ps, mg (matchQ z.op) es = ps := ⟨_, rfl⟩
    have hpl : ps.length ≤ 2000000 := by
     have := plTo_len (f := f) (q := matchQ z.op) (fun b hb => (hf.2.2.2.2 b hb).2.2.1) f.blocks.length (Nat.le_refl _)
     rw [← hps, hmq]; omega
    have hcx : chkX f z i j = true ↔ ∃ m ∈ ps, hitB f z i j m = true := by rw [chkX_iff, ← hps, hmq]
    have hpm : ∀ m ∈ ps, ∃ (i' k' : Nat) (b' : PBlock) (c : PInst), f.blocks[i']? = some b' ∧ b'.insts[k']? = some c ∧ m = ((i' : Int), (k' : Int)) ∧ 0 ≤ z.dst ∧ z.dst.toNat < f.vars.length := fun m hm => by
     rw [← hps, hmq] at hm
     obtain ⟨hq, i', k', b', c, g1, g2, g3, g4⟩ := mem_plTo.1 hm
     have hso : z.op = 2 ∨ z.op = 3 ∨ z.op = 4 := Classical.byContradiction fun hno => by
      unfold matchQ at hq; rw [if_neg hno] at hq; unfold isChk at hq; omega
     rcases hI.dst with ⟨d1, _⟩ | ⟨_, _, d3⟩
     ·rw [makesB_sum hso] at d1; cases d1
     ·have := hasV_rng d3
      exact ⟨i', k', b', c, g1, g2, g4, this.1, by omega⟩
    refine zg<|za<|zm<|za<|z7 rfl<|z2 (zMi rfl)<|z2 (zz (j := j) underlying60 sizeOf33 rfl rfl rfl hzg)<|z2 (zj isAgg33 sizeOf33 rfl rfl)<|zq (cs := [.int .i64 0, .int .i64 0, .raw (.slice none 0 0), .int .i64 0]) zeroValue33 rfl rfl<|fun i12 => z2 (zAi rfl)<|ze sizeOf33 rfl rfl rfl rfl rfl rfl .head rfl<|zi (yh (t := 12) rfl .head)<|z6<|za<|z7 rfl<|z2 (y5 (v := mref _) rfl)<|z2 (zc underlying33 rfl sizeOf31 (by decide) rfl rfl)<|z2 (zLi isAgg31 rfl)<|zd (matching_spec z.op) rfl<|z2 (Gv.lookupF underlying178 underlying31 zeroValue102 rfl rfl ⟨_, (.tail (.tail .head))⟩)<|z2 (y6 underlying102 rfl)<|z2 (zMi rfl)<|z6 ?_
    rw [hps]
    refine zm<|ya (γ := Nat × List Bool) [1, 5, 7, 8, 9, 11, 12, 41, 42, 43, 49, 50, 51, 60, 61] (fun g => [(62, .int .i64 g.1)]) (fun g => [(iv, .cells 125 (encF f ++ [.fro 2 ((makersT f).map eP.row), .own ck f.vars.length, .raw (.slice none 0 0)])), (ck, .grow 1 4 (cB g.2)), (0, mfroO eP mb es)]) (fun g => g.1 ≤ ps.length ∧ g.2.length = f.vars.length ∧ ∀ v : Nat, v < f.vars.length → (gb g.2 v = true ↔ Done f i j v ∨ ((v : Int) = z.dst ∧ ∃ m ∈ ps.take g.1, hitB f z i j m = true))) (fun g => ps.length - g.1) (0, L) zR1 zLe (⟨qm _, hLl, fun v hv => by rw [hLd v hv]; simp⟩) ?_
    rintro ⟨q, L⟩ ⟨hq, hLl, hLd⟩
    try dsimp only at *
    refine za<|z7 rfl<|z2 (yc rfl rfl)<|z6<|za<|zn rfl (fun cq => ?_) (fun cq => ?_)
    ·have hq2 : q < ps.length := by simp at cq; omega
     obtain ⟨m, hm⟩ : ∃ m, ps[q] = m := ⟨_, rfl⟩
     obtain ⟨i', k', b', c, g1, g2, rfl, hz0, hz1⟩ := hpm m (hm ▸ qn hq2)
     have hcl := (hf.2.2.2.2 b' (qu g1)).2.2.2.2 c (qu g2)
     have htk : ∀ P : Plc → Prop, (∃ m ∈ ps.take (q + 1), P m) ↔ (∃ m ∈ ps.take q, P m) ∨ P ((i' : Int), (k' : Int)) := fun P => by
      rw [qk hq2, hm]
      simp only [List.mem_append, List.mem_singleton]
      constructor
      ·rintro ⟨m, h | rfl, hp⟩
       ·exact .inl ⟨m, h, hp⟩
       ·exact .inr hp
      ·rintro (⟨m, h, hp⟩ | hp)
       ·exact ⟨m, .inl h, hp⟩
       ·exact ⟨_, .inr rfl, hp⟩
     have hhit : hitB f z i j ((i' : Int), (k' : Int)) = (decide (c.args = z.args) && aheadB f ((i' : Int), (k' : Int)) i j) := by unfold hitB; rw [instAt_nat g1 g2]; rfl
     refine zg<|za<|zm<|za<|z7 rfl<|z2 (zz (j := q) underlying102 sizeOf109 rfl rfl rfl (by rw [qj hq2, hm]))<|z2 (zj isAgg109 sizeOf109 rfl rfl)<|zq (cs := [.int .i64 0, .int .i64 0]) zeroValue109 rfl rfl<|fun i14 => ze sizeOf109 rfl rfl rfl rfl rfl rfl .head rfl<|zi (yh (t := 14) rfl .head)<|z6<|za<|zw (fun j => false) (by kernel_rfl) rfl (zu (.rest _))<|zTk (i := 0) rfl (zc underlying26 rfl sizeOf24 (by decide) rfl rfl)<|zTk (i := 1) rfl (zLf isAgg24 rfl)<|zTk (i := 2) rfl (zc underlying109 rfl sizeOf3 (by decide) rfl rfl)<|zTk (i := 3) rfl (zLi isAgg3 rfl)<|zTk (i := 4) rfl (zz (j := i') underlying24 sizeOf66 rfl rfl rfl g1)<|zTk (i := 5) rfl (zc underlying66 rfl sizeOf60 (by decide) rfl rfl)<|zTk (i := 6) rfl (zLf isAgg60 rfl)<|zTk (i := 7) rfl (zc underlying109 rfl sizeOf3 (by decide) rfl rfl)<|zTk (i := 8) rfl (zLi isAgg3 rfl)<|zTk (i := 9) rfl (zz (j := k') underlying60 sizeOf33 rfl rfl rfl g2)<|zTk (i := 10) rfl (zj isAgg33 sizeOf33 rfl rfl)<|zOn (i := 11) rfl<|zq (cs := [.int .i64 0, .int .i64 0, .raw (.slice none 0 0), .int .i64 0]) zeroValue33 rfl rfl<|fun i15 => z6<|zOn (i := 12) rfl<|ze sizeOf33 rfl rfl rfl rfl rfl rfl .head rfl<|z6<|zDn<|yl (yh (t := 15) rfl .head)<|za<|yi (γ := Bool) [1, 5, 7, 8, 9, 11, 12, 41, 42, 43, 49, 50, 51, 60, 61, 62] (fun u => [(88, .bool u)]) (fun u => [(iv, .cells 125 (encF f ++ [.fro 2 ((makersT f).map eP.row), .own ck f.vars.length, .raw (.slice none 0 0)])), (ck, .grow 1 4 (cB L)), (0, mfroO eP mb es)]) (fun u => u = hitB f z i j ((i' : Int), (k' : Int))) ?_ (fun _ _ h => h) ?_
     ·refine z7 rfl<|z2 (zc underlying33 rfl sizeOf23 (by decide) rfl rfl)<|z2 (zLf isAgg23 rfl)<|z2 (zc underlying33 rfl sizeOf23 (by decide) rfl rfl)<|z2 (zLf isAgg23 rfl)<|zd (equalI_spec c.args z.args (by unfold okL; omega)) rfl<|z2 (zMb rfl)<|zr (s := 82) rfl (fun c1 => ?_) (fun c1 => ?_)
      ·refine zb rfl rfl c1<|z2 (y5 (v := .pf _) rfl)<|zb rfl rfl c1<|z2 (zj isAgg109 sizeOf109 rfl rfl)<|zb rfl rfl c1<|z2 (zMi rfl)<|zb rfl rfl c1<|z2 (zMi rfl)<|zb rfl rfl c1<|zd (ahead_spec f hE hn ((i' : Int), (k' : Int)) i j (froN eI (kidsR f)) .any) rfl<|z2 (zPt rfl c1 rfl)<|z6 ?_
       exact ⟨_, zR16, zR1, zLe, by rw [hhit, show decide (c.args = z.args) = true from c1]; rfl⟩
      ·refine z8 rfl rfl c1<|z8 rfl rfl c1<|z8 rfl rfl c1<|z8 rfl rfl c1<|z8 rfl rfl c1<|z2 (zPf rfl c1 rfl)<|z6 ?_
       exact ⟨_, zR16, zR1, zLe, by rw [hhit, show decide (c.args = z.args) = false from c1]; rfl⟩
     ·rintro u hu
      subst hu
      refine y4 rfl (fun ch => ?_) (fun ch => ?_)
      ·refine zw (fun j => Nat.beq j 7) (by kernel_rfl) rfl (zu (.r (.r (.rest _))))<|zTk (i := 0) rfl (y5 (v := .po _ _) rfl)<|zTk (i := 1) rfl (yt rfl)<|zTk (i := 2) rfl (zt underlying125 rfl sizeOf111 (by decide) rfl rfl)<|zTk (i := 3) rfl (zx (c := .own _ _) isAgg111 rfl ⟨_, .head⟩ rfl)<|zTk (i := 4) rfl (zc underlying33 rfl sizeOf3 (by decide) rfl rfl)<|zTk (i := 5) rfl (zLi isAgg3 rfl)<|zTk (i := 6) rfl (q4 (j := z.dst.toNat) underlying111 sizeOf4 rfl rfl (by omega) ⟨_, (.tail .head)⟩ (by rw [cB_len]; exact hLl) hz1)<|ym<|yv (i := 7) rfl (by kernel_rfl) (by kernel_rfl)<|AOps.storeB (j := z.dst.toNat) sizeOf4 rfl rfl (.tail .head) (by omega)<|z6<|yr (by kernel_rfl)<|z7 rfl<|z2 (yd rfl rfl (by unfold I64; omega))<|z2 (zMi rfl)<|z6 ?_
       exact ⟨(q + 1, L.set z.dst.toNat true), zR15, zR1, zLe, ⟨hq2, by rw [List.length_set]; exact hLl, fun v hv => by rw [gb_set2 (by omega), hLd v hv, htk, ch]; constructor; (rintro (h | h | h); exact .inr ⟨by omega, .inr rfl⟩; exact .inl h; exact .inr ⟨h.1, .inl h.2⟩); (rintro (h | ⟨h1, h2⟩); exact .inr (.inl h); exact .inl (by omega))⟩, by dsimp only; omega⟩
      ·refine zg<|z7 rfl<|z2 (yd rfl rfl (by unfold I64; omega))<|z2 (zMi rfl)<|z6 ?_
       exact ⟨(q + 1, L), zR15, zR1, zLe, ⟨hq2, hLl, fun v hv => by rw [hLd v hv, htk]; simp [show hitB f z i j ((i' : Int), (k' : Int)) = false from ch]⟩, by dsimp only; omega⟩
    ·have hqn : q = ps.length := by simp at cq; omega
     subst hqn
     refine y8<|z7 rfl<|z2 (yd rfl rfl (by unfold I64; omega))<|z2 (zMi rfl)<|z6 ?_
     exact ⟨(j + 1, L), zR10, zR1, zLe, ⟨hj2, hLl, fun v hv => by rw [hLd v hv, qo, hstep, hcx]⟩, by dsimp only; omega⟩
   ·have hjn : j = b.insts.length := by simp at cj; omega
    subst hjn
    refine y8<|z7 rfl<|z2 (yd rfl rfl (by unfold I64; omega))<|z2 (zMi rfl)<|z6 ?_
    exact ⟨(i + 1, L), zR6, zR1, zLe, ⟨hi2, hLl, fun v hv => by rw [hLd v hv, Done.next hget]⟩, by dsimp only; omega⟩
  ·have hin : i = f.blocks.length := by simp at ci; omega
   subst hin
   have hLe := chkL_eq honce hLl hLd
   subst hLe
   refine y8<|yl (GStep.knowBC (off := 4) (.tail .head) .head rfl (chkL_len f))<|za<|z7 rfl<|z2 (y5 (v := .po _ _) rfl)<|z2 (y1 (v := .po _ _) rfl)<|z2 (zAi rfl)<|z6<|zf<|qd (x := .po _ _) (y := .int _ _) rfl rfl ?_
   exact ⟨iv, rfl, ⟨_, .keep (.drop (.refl _)), rfl⟩, trivial⟩
end Go.Proofs.YtjnpcfpecilejaaGreatDoor
namespace Go.Proofs.YtjnpcfpecilejaaGreatDoor
open Go.Proofs.Tryz
open Go.Proofs Go.Lib Go.Shelf Go.RowKit
variable {E : World}
set_option maxRecDepth 20000
theorem takes_10 : takesL 10 = [1] := by decide
theorem takes_11 : takesL 11 = [1, 1] := by decide
theorem typed_bool {f : PFunc} (h : typedB f = true) : ∀ b ∈ f.blocks, ∀ x ∈ b.insts, x.op = 10 ∨ x.op = 11 → ∀ v ∈ x.args, tyV f v = 1 := by
 intro b hb x hx hop v hv
 unfold typedB at h
 rw [qy] at h
 have h1 := List.all_eq_true.1 h.2 b hb
 unfold blkT at h1
 simp only [qy] at h1
 have h2 := List.all_eq_true.1 h1.1.2 x hx
 unfold instT at h2
 rw [if_neg (by omega)] at h2
 rw [qy, qz] at h2
 have h3 : kindV f v ∈ takesL x.op := by rw [← h2.1]; exact List.mem_map_of_mem hv
 show kindV f v = 1
 rcases hop with e | e <;> rw [e] at h3
 ·rw [takes_10] at h3; simpa using h3
 ·rw [takes_11] at h3; simpa using h3
theorem sing_once {f : PFunc} (h : singB f = true) : OnceP f := (onceB_iff f).1 (by unfold singB at h; simp only [qy] at h; exact h.2.2.1)
theorem ruleF_of {f : PFunc} (hf : small f) (h : (typedB f && singB f) = true) : RuleF f := ⟨hf, typedB_shaped (and3 h).1, sing_once (and3 h).2, typed_bool (and3 h).1⟩
theorem rule_chk {f : PFunc} (hS : ShapedP f) {l : List Rng} {v : Nat} (hv : v < f.vars.length) (hm : 0 ≤ (makerT f v).1) (ho : OnceP f) : ruleR f (gb (chkL f)) l v = ruleR f (chkV f) l v := by
 obtain ⟨i, b, h1, ⟨p, h2, h3, h4⟩ | ⟨k, x, h2, h3, h4⟩⟩ := maker_cases hm
 ·rw [rule_phi (ho v hv).1 h1 h2 h3 h4, rule_phi (ho v hv).1 h1 h2 h3 h4]
 ·rw [rule_inst h1 h2 h4, rule_inst h1 h2 h4]
  unfold instR
  rw [h3, chkL_gb (by omega) (by omega)]
theorem notdecT {p : Prop} [Decidable p] (h : (!decide p) = true) : ¬ p := fun hp => by rw [qw hp] at h; cases h
theorem notdecF {p : Prop} [Decidable p] (h : (!decide p) = false) : p := Classical.byContradiction fun hp => by rw [qx hp] at h; cases h
def firstP (f : PFunc) (v : Int) : Rng := if typedB f = true ∧ 0 ≤ v ∧ v < f.vars.length then firstR f v else noR
theorem vFirst_spec (f : PFunc) (hf : small f) (hL : Letters E) (v : Int) : AFun Tryz.prog E 36 [.agg (encF f), .int .i64 v] (.agg (encZ (firstP f v))) := by
 have hvn := hf.1
 have hp := hf.2.1
 have hT := Typed_spec (E := E) f hf hL
 refine zp func36 rfl (by decide) rfl<|za<|z7 rfl<|y7 (cs := _) rfl rfl rfl<|zq (cs := [.int .i64 0, .int .i64 0]) zeroValue74 rfl rfl<|fun i4 => z6<|za<|zm<|za<|yi (γ := Bool) [1, 2, 4] (fun u => [(5, .bool u)]) (fun u => [(i4, .cells 74 [.int .i64 0, .int .i64 0])]) (fun u => u = !decide (typedB f = true ∧ 0 ≤ v ∧ v < f.vars.length)) ?_ (fun _ _ h => h) ?_
 ·refine z7 rfl<|z2 (zj isAgg26 sizeOf26 rfl rfl)<|zd (hT) rfl<|z2 (yq rfl rfl)<|z2 (zMb rfl)<|zr (s := 9) rfl (fun c1 => ?_) (fun c1 => ?_)
  ·refine z8 rfl rfl c1<|z8 rfl rfl c1<|z2 (zPt rfl c1 rfl)<|z2 (zMb rfl)<|z8 rfl rfl rfl<|z8 rfl rfl rfl<|z8 rfl rfl rfl<|z8 rfl rfl rfl<|z8 rfl rfl rfl<|z2 (zPt rfl rfl rfl)<|z2 (zAb rfl)<|z6 ?_
   exact ⟨_, zR3, zR1, zLe, by have h : typedB f = false := (by cases ht : typedB f; rfl; rw [ht] at c1; simp at c1); simp [h]⟩
  ·have h1 : typedB f = true := by cases ht : typedB f; rw [ht] at c1; simp at c1; rfl
   refine zb rfl rfl c1<|z2 (zMi rfl)<|zb rfl rfl c1<|z2 (yc rfl rfl)<|z2 (zPf rfl c1 rfl)<|z2 (zMb rfl)<|zr (s := 13) rfl (fun c2 => ?_) (fun c2 => ?_)
   ·refine z8 rfl rfl c2<|z8 rfl rfl c2<|z8 rfl rfl c2<|z8 rfl rfl c2<|z8 rfl rfl c2<|z2 (zPt rfl c2 rfl)<|z2 (zAb rfl)<|z6 ?_
    exact ⟨_, zR3, zR1, zLe, by have h : v < 0 := (by simpa using c2); simp; omega⟩
   ·refine zb rfl rfl c2<|z2 (zMi rfl)<|zb rfl rfl c2<|z2 (zc underlying26 rfl sizeOf22 (by decide) rfl rfl)<|zb rfl rfl c2<|z2 (zLf isAgg22 rfl)<|zb rfl rfl c2<|z2 (y6 underlying22 rfl)<|zb rfl rfl c2<|z2 (q8 rfl rfl)<|z2 (zPf rfl c2 rfl)<|z2 (zAb rfl)<|z6 ?_
    exact ⟨_, zR3, zR1, zLe, by have h : ¬ v < 0 := (by simpa using c2); rw [qt]; simp [h1]; omega⟩
 ·rintro u hu
  subst hu
  refine y4 rfl (fun c => ?_) (fun c => ?_)
  ·refine za<|z7 rfl<|zd (iNone) rfl<|ze sizeOf74 rfl rfl rfl rfl rfl rfl .head rfl<|z6<|zf<|yf rfl ⟨_, .head⟩ isAgg74 sizeOf74 rfl ?_
   rw [firstP, if_neg (notdecT c)]; try rfl
  ·have hc : typedB f = true ∧ 0 ≤ v ∧ v < f.vars.length := notdecF c
   rw [firstP, if_pos hc, firstR]
   have hvl : v.toNat < f.vars.length := by omega
   have hty : tyV f v = f.vars[v.toNat].ty := by unfold tyV; rw [qj hvl]; rfl
   refine za<|z7 rfl<|z2 (zMi rfl)<|z2 (zc underlying26 rfl sizeOf23 (by decide) rfl rfl)<|z2 (zLf isAgg23 rfl)<|z2 (y6 underlying23 rfl)<|z2 (yc rfl rfl)<|z2 (zAb rfl)<|z6<|zn rfl (fun c2 => ?_) (fun c2 => ?_)
   ·refine za<|z7 rfl<|z2 (zc underlying26 rfl sizeOf22 (by decide) rfl rfl)<|z2 (zLf isAgg22 rfl)<|z2 (zMi rfl)<|z2 (zz (j := v.toNat) underlying22 sizeOf56 rfl rfl (by omega) (qj hvl))<|z2 (zc underlying56 rfl sizeOf54 (by decide) rfl rfl)<|z2 (zLi isAgg54 rfl)<|zd (iType _) rfl<|ze sizeOf74 rfl rfl rfl rfl rfl rfl .head rfl<|z6<|zf<|yf rfl ⟨_, .head⟩ isAgg74 sizeOf74 rfl ?_
    rw [if_pos c2, hty]; try rfl
   ·refine zg<|za<|z7 rfl<|zd (iOf _) rfl<|ze sizeOf74 rfl rfl rfl rfl rfl rfl .head rfl<|z6<|zf<|yf rfl ⟨_, .head⟩ isAgg74 sizeOf74 rfl ?_
    rw [if_neg c2]; try rfl
def ruleB (f : PFunc) (l : List Rng) (v : Int) : Bool := (typedB f && singB f) && decide (l.length = f.vars.length ∧ 0 ≤ v ∧ v < f.vars.length ∧ 0 ≤ (makerT f v).1)
def ruleP (f : PFunc) (l : List Rng) (v : Int) : Rng := if ruleB f l v = true then ruleR f (chkV f) l v else noR
theorem lv_ok {l : List Rng} (h : ∀ r ∈ l, ok64 r) (u : Int) : ok64 (lv l u) := by
 unfold lv
 cases hu : l[u.toNat]? with
 | none => exact noR_ok
 | some r => exact h r (qu hu)
set_option maxHeartbeats 4000000 in
theorem vRule_ok (f : PFunc) (hf : small f) (hL : Letters E) (l : List Rng) (ho : ∀ r ∈ l, ok64 r) (hl : l.length ≤ 9223372036854775807) (v : Int) (hs : (typedB f && singB f) = true) : AFun Tryz.prog E 40 [.agg (encF f), .fro 2 (l.map encZ), .int .i64 v] (.tup [.agg (encZ (ruleP f l v)), .bool (ruleB f l v)]) := by
 have hvn := hf.1
 have hF := ruleF_of hf hs
 have hS := hF.shaped
 have hlk := look_ok (E := E) f hf hL hs
 refine zp func40 rfl (by decide) rfl<|za<|z7 rfl<|y7 (cs := _) rfl rfl rfl<|zq (cs := [.int .i64 0, .int .i64 0]) zeroValue74 rfl rfl<|fun i6 => z2 (zAb rfl)<|z6<|za<|z7 rfl<|z2 (zj isAgg26 sizeOf26 rfl rfl)<|yb rfl (zu (.r (.rest _))) (hlk) ?_
 rintro r12 O12 ⟨iv, rfl, rfl⟩
 refine z2 (y5 (v := .tup _) rfl)<|z2 (yj (v := .po _ _) rfl rfl)<|z2 (yj (v := .int _ _) rfl rfl)<|z2 (y1 (v := .po _ _) rfl)<|z2 (zAi rfl)<|z6<|za<|za<|yi (γ := Bool) [1, 2, 6, 8] (fun u => [(46, .bool u)]) (fun u => [(iv, .cells 125 (viewL f (chkL f) (.raw (.slice none 0 0)))), (i6, .cells 74 [.int .i64 0, .int .i64 0])]) (fun u => u = !decide (l.length = f.vars.length ∧ 0 ≤ v ∧ v < f.vars.length ∧ 0 ≤ (makerT f v).1)) ?_ (fun _ _ h => h) ?_
 ·refine z7 rfl<|z2 (zMi rfl)<|z2 (yq rfl rfl)<|z2 (zMb rfl)<|zr (s := 17) rfl (fun c1 => ?_) (fun c1 => ?_)
  ·exfalso; simp at c1
  ·refine zb rfl rfl c1<|z2 (zMf rfl)<|zb rfl rfl c1<|z2 (y6 underlying41 rfl)<|zb rfl rfl c1<|z2 (zc underlying26 rfl sizeOf22 (by decide) rfl rfl)<|zb rfl rfl c1<|z2 (zLf isAgg22 rfl)<|zb rfl rfl c1<|z2 (y6 underlying22 rfl)<|zb rfl rfl c1<|z2 (yq rfl rfl)<|z2 (zPf rfl c1 rfl)<|z2 (zMb rfl)<|zr (s := 25) rfl (fun c2 => ?_) (fun c2 => ?_)
   ·refine z8 rfl rfl c2<|z8 rfl rfl c2<|z2 (zPt rfl c2 rfl)<|z2 (zMb rfl)<|z8 rfl rfl rfl<|z8 rfl rfl rfl<|z8 rfl rfl rfl<|z8 rfl rfl rfl<|z8 rfl rfl rfl<|z2 (zPt rfl rfl rfl)<|z2 (zMb rfl)<|z8 rfl rfl rfl<|z8 rfl rfl rfl<|z8 rfl rfl rfl<|z8 rfl rfl rfl<|z8 rfl rfl rfl<|z8 rfl rfl rfl<|z8 rfl rfl rfl<|z8 rfl rfl rfl<|z8 rfl rfl rfl<|z2 (zPt rfl rfl rfl)<|z6 ?_
    exact ⟨_, zR4, zR1, zLe, by have h : ¬ l.length = f.vars.length := (by intro e; rw [e] at c2; simp at c2); simp [h]⟩
   ·have h1 : l.length = f.vars.length := by have h : (!decide ((l.length : Int) = (f.vars.length : Int))) = false := c2; simp at h; omega
    refine zb rfl rfl c2<|z2 (zMi rfl)<|zb rfl rfl c2<|z2 (yc rfl rfl)<|z2 (zPf rfl c2 rfl)<|z2 (zMb rfl)<|zr (s := 29) rfl (fun c3 => ?_) (fun c3 => ?_)
    ·refine z8 rfl rfl c3<|z8 rfl rfl c3<|z8 rfl rfl c3<|z8 rfl rfl c3<|z8 rfl rfl c3<|z2 (zPt rfl c3 rfl)<|z2 (zMb rfl)<|z8 rfl rfl rfl<|z8 rfl rfl rfl<|z8 rfl rfl rfl<|z8 rfl rfl rfl<|z8 rfl rfl rfl<|z8 rfl rfl rfl<|z8 rfl rfl rfl<|z8 rfl rfl rfl<|z8 rfl rfl rfl<|z2 (zPt rfl rfl rfl)<|z6 ?_
     exact ⟨_, zR4, zR1, zLe, by have h : v < 0 := (by simpa using c3); simp; omega⟩
    ·have h2 : ¬ v < 0 := by simpa using c3
     refine zb rfl rfl c3<|z2 (zMi rfl)<|zb rfl rfl c3<|z2 (zc underlying26 rfl sizeOf22 (by decide) rfl rfl)<|zb rfl rfl c3<|z2 (zLf isAgg22 rfl)<|zb rfl rfl c3<|z2 (y6 underlying22 rfl)<|zb rfl rfl c3<|z2 (q8 rfl rfl)<|z2 (zPf rfl c3 rfl)<|z2 (zMb rfl)<|zr (s := 36) rfl (fun c4 => ?_) (fun c4 => ?_)
     ·refine z8 rfl rfl c4<|z8 rfl rfl c4<|z8 rfl rfl c4<|z8 rfl rfl c4<|z8 rfl rfl c4<|z8 rfl rfl c4<|z8 rfl rfl c4<|z8 rfl rfl c4<|z8 rfl rfl c4<|z2 (zPt rfl c4 rfl)<|z6 ?_
      exact ⟨_, zR4, zR1, zLe, by have h : (f.vars.length : Int) ≤ v := (by simpa using c4); simp; omega⟩
     ·have h3 : ¬ (f.vars.length : Int) ≤ v := by simpa using c4
      have hmk0 := makersT_get (f := f) (v := v.toNat) (by omega)
      rw [show ((v.toNat : Nat) : Int) = v by omega] at hmk0
      refine zb rfl rfl c4<|z2 (y5 (v := .po _ _) rfl)<|zb rfl rfl c4<|z2 (yt rfl)<|zb rfl rfl c4<|z2 (zt underlying125 rfl sizeOf102 (by decide) rfl rfl)<|zb rfl rfl c4<|z2 (zx (c := .fro _ _) isAgg102 rfl ⟨_, .head⟩ rfl)<|zb rfl rfl c4<|z2 (zMi rfl)<|zb rfl rfl c4<|z2 (zz (j := v.toNat) underlying102 sizeOf109 rfl rfl (by omega) hmk0)<|zb rfl rfl c4<|z2 (zc underlying109 rfl sizeOf3 (by decide) rfl rfl)<|zb rfl rfl c4<|z2 (zLi isAgg3 rfl)<|zb rfl rfl c4<|z2 (yc rfl rfl)<|z2 (zPf rfl c4 rfl)<|z6 ?_
      exact ⟨_, zR4, zR1, zLe, by rw [qt]; simp [h1]; omega⟩
 ·rintro u hu
  subst hu
  refine y4 rfl (fun c => ?_) (fun c => ?_)
  ·have hc : ¬ (l.length = f.vars.length ∧ 0 ≤ v ∧ v < f.vars.length ∧ 0 ≤ (makerT f v).1) := notdecT c
   have hb : ruleB f l v = false := by unfold ruleB; rw [qx hc, Bool.and_false]
   refine za<|z7 rfl<|zd (iNone) rfl<|ze sizeOf74 rfl rfl rfl rfl rfl rfl (.tail .head) rfl<|z2 (zAb rfl)<|z6<|zf<|afin.c1t (y := .bool _) rfl rfl ⟨_, (.tail .head)⟩ isAgg74 sizeOf74 rfl ?_
   rw [ruleP, hb, if_neg (by decide)]; try rfl
  ·have hc : l.length = f.vars.length ∧ 0 ≤ v ∧ v < f.vars.length ∧ 0 ≤ (makerT f v).1 := notdecF c
   obtain ⟨hll, h0, h1, hm⟩ := hc
   have hb : ruleB f l v = true := by unfold ruleB; rw [hs, qw ⟨hll, h0, h1, hm⟩]; rfl
   have hvv : ((v.toNat : Nat) : Int) = v := by omega
   have hvr := vrule_spec (E := E) f hF l (chkL f) (chkL_len f) (.fro 2 (l.map encZ)) (i := i6) (HL := .cells 74 [.int .i64 0, .int .i64 0]) (fun ha => of_fro f hS (chkL f) l hll i6 _ ha) (fun u _ => lv_ok ho u) v.toNat (by omega) (by rw [hvv]; exact hm)
   rw [rule_chk hS (by omega) (by rw [hvv]; exact hm) hF.once, hvv] at hvr
   refine zg<|za<|z7 rfl<|z2 (y5 (v := .po _ _) rfl)<|z2 (zMf rfl)<|z2 (yt rfl)<|z2 (zt underlying125 rfl sizeOf41 (by decide) rfl rfl)<|q0 (l := [_]) (new := [_, _, _, _, _, _]) sizeOf41 rfl rfl rfl rfl rfl rfl .head rfl rfl<|z6<|yl (yh (t := 8) rfl .head)<|za<|z7 rfl<|z2 (y5 (v := .pf _) rfl)<|z2 (zMi rfl)<|yb rfl (zu (.l (.rest _))) (hvr) ?_
   rintro r54 O54 ⟨rfl, rfl⟩
   refine ze sizeOf74 rfl rfl rfl rfl rfl rfl .head rfl<|z2 (zAb rfl)<|z6<|zf<|afin.c1t (y := .bool _) rfl rfl ⟨_, .head⟩ isAgg74 sizeOf74 rfl ?_
   rw [ruleP, hb, if_pos rfl]; try rfl
theorem vRule_bad (f : PFunc) (hf : small f) (hL : Letters E) (l : List Rng) (ho : ∀ r ∈ l, ok64 r) (hl : l.length ≤ 9223372036854775807) (v : Int) (hs : ¬ (typedB f && singB f) = true) : AFun Tryz.prog E 40 [.agg (encF f), .fro 2 (l.map encZ), .int .i64 v] (.tup [.agg (encZ (ruleP f l v)), .bool (ruleB f l v)]) := by
 have hs2 : (typedB f && singB f) = false := by simpa using hs
 have hlk := look_bad (E := E) f hf hL hs2
 have hb : ruleB f l v = false := by unfold ruleB; rw [hs2]; rfl
 refine zp func40 rfl (by decide) rfl<|za<|z7 rfl<|y7 (cs := _) rfl rfl rfl<|zq (cs := [.int .i64 0, .int .i64 0]) zeroValue74 rfl rfl<|fun i6 => z2 (zAb rfl)<|z6<|za<|z7 rfl<|z2 (zj isAgg26 sizeOf26 rfl rfl)<|zd (hlk) rfl<|z2 (y5 (v := .tup _) rfl)<|z2 (yj (v := .raw _) rfl rfl)<|z2 (yj (v := .int _ _) rfl rfl)<|z2 (y1 (v := .raw _) rfl)<|z2 (zAi rfl)<|z6<|za<|za<|z7 rfl<|z2 (zMi rfl)<|z2 (yq rfl rfl)<|z2 (zMb rfl)<|z8 rfl rfl rfl<|z8 rfl rfl rfl<|z8 rfl rfl rfl<|z8 rfl rfl rfl<|z8 rfl rfl rfl<|z8 rfl rfl rfl<|z2 (zPt rfl rfl rfl)<|z2 (zMb rfl)<|z8 rfl rfl rfl<|z8 rfl rfl rfl<|z2 (zPt rfl rfl rfl)<|z2 (zMb rfl)<|z8 rfl rfl rfl<|z8 rfl rfl rfl<|z8 rfl rfl rfl<|z8 rfl rfl rfl<|z8 rfl rfl rfl ?_
 refine z2 (zPt rfl rfl rfl)<|z2 (zMb rfl)<|z8 rfl rfl rfl<|z8 rfl rfl rfl<|z8 rfl rfl rfl<|z8 rfl rfl rfl<|z8 rfl rfl rfl<|z8 rfl rfl rfl<|z8 rfl rfl rfl<|z8 rfl rfl rfl<|z8 rfl rfl rfl<|z2 (zPt rfl rfl rfl)<|z6<|yy rfl rfl<|za<|z7 rfl<|zd (iNone) rfl<|ze sizeOf74 rfl rfl rfl rfl rfl rfl .head rfl<|z2 (zAb rfl)<|z6<|zf<|afin.c1t (y := .bool _) rfl rfl ⟨_, .head⟩ isAgg74 sizeOf74 rfl ?_
 rw [ruleP, hb, if_neg (by decide)]; try rfl
theorem vRule_spec (f : PFunc) (hf : small f) (hL : Letters E) (l : List Rng) (ho : ∀ r ∈ l, ok64 r) (hl : l.length ≤ 9223372036854775807) (v : Int) : AFun Tryz.prog E 40 [.agg (encF f), .fro 2 (l.map encZ), .int .i64 v] (.tup [.agg (encZ (ruleP f l v)), .bool (ruleB f l v)]) := by
 by_cases hs : (typedB f && singB f) = true
 ·exact vRule_ok f hf hL l ho hl v hs
 ·exact vRule_bad f hf hL l ho hl v hs
end Go.Proofs.YtjnpcfpecilejaaGreatDoor
