/- What is owned, lent for a call that only reads. No conditions. -/
import Derived.Test.YtjnpcfpecilejaaGreatDoorKo
import Derived.Test.YtjnpcfpecilejaaGreatDoorKh
import Derived.Test.YtjnpcfpecilejaaGreatDoorKt
set_option linter.unusedVariables false
set_option linter.unusedSimpArgs false
set_option linter.unusedSectionVars false
namespace Go.Proofs.YtjnpcfpecilejaaGreatDoor
open Go.Proofs.Tryz
open Go.Proofs Go.Lib Go.Shelf Go.RowKit
set_option maxRecDepth 20000
variable {E : World}
theorem sum_take {α : Type} (g : α → Nat) : ∀ (l : List α) (k : Nat), ((l.take k).map g).sum ≤ (l.map g).sum
 | [], k => by simp
 | x :: l, 0 => by simp
 | x :: l, k + 1 => by
  have := sum_take g l k
  simp only [List.take_succ_cons, List.map_cons, List.sum_cons]; omega
theorem wP_take (l : List PPhi) (k : Nat) : wP (l.take k) ≤ wP l := sum_take _ l k
theorem wX_take (l : List PInst) (k : Nat) : wX (l.take k) ≤ wX l := sum_take _ l k
theorem little_le {f : PFunc} (h : little f) {k : Nat} (hk : k < f.blocks.length) : wV f.vars + wBs (f.blocks.take k) + wB f.blocks[k] ≤ 4000 := by
 have h1 := h.2.2.2.2.2 (fun e => by rw [e] at hk; exact absurd hk (Nat.not_lt_zero _))
 have h2 : wBs (f.blocks.take (k + 1)) ≤ wBs f.blocks := sum_take _ f.blocks (k + 1)
 rw [wBs_succ hk] at h2
 omega
set_option maxHeartbeats 8000000 in
theorem fewIff_spec (f : PFunc) (hf : wFunc f) : ACall prog E 12 [.agg (encF f)] [] (fun x _ => ∃ b : Bool, x = .bool b ∧ (b = true ↔ little f)) := by
 obtain ⟨hf1, hf2, hf3, hf4⟩ := hf
 have hl1 := hf1.lt
 have hl3 := hf3.lt
 refine zn func12 rfl (by decide) rfl<|zSr<|y1 (cs := _) rfl rfl rfl<|z2 (zAb rfl)<|z6<|za<|za<|yb (γ := Unit) [1] (fun u => [(27, .bool (few1 f))]) (fun u => []) (fun u => True) ?_ (fun _ _ h => h) ?_
 ·refine zRg<|z2 (zFF underlying26 rfl sizeOf22 rfl rfl)<|z2 (zLf isAgg22 rfl)<|z2 (zz underlying22 rfl)<|z2 (yq rfl rfl)<|z2 (zMb rfl)<|zr (s := 16) rfl (fun c1=>?_) (fun c1=>?_)
  ·refine z7 rfl rfl c1<|z7 rfl rfl c1<|z7 rfl rfl c1<|z7 rfl rfl c1<|z2 (zPt rfl c1 rfl)<|z2 (zMb rfl)<|z7 rfl rfl rfl<|z7 rfl rfl rfl<|z7 rfl rfl rfl<|z7 rfl rfl rfl<|z2 (zPt rfl rfl rfl)<|z6 ?_
   exact ⟨(), zR1, ⟨jb (by simp_all [few1] <;> grind), trivial⟩, zLe, trivial⟩
  ·refine z8 rfl rfl c1<|z2 (zFF underlying26 rfl sizeOf24 rfl rfl)<|z8 rfl rfl c1<|z2 (zLf isAgg24 rfl)<|z8 rfl rfl c1<|z2 (zz underlying24 rfl)<|z8 rfl rfl c1<|z2 (yq rfl rfl)<|z2 (zPf rfl c1 rfl)<|z2 (zMb rfl)<|zr (s := 22) rfl (fun c2=>?_) (fun c2=>?_)
   ·refine z7 rfl rfl c2<|z7 rfl rfl c2<|z7 rfl rfl c2<|z7 rfl rfl c2<|z2 (zPt rfl c2 rfl)<|z6 ?_
    exact ⟨(), zR1, ⟨jb (by simp_all [few1] <;> grind), trivial⟩, zLe, trivial⟩
   ·refine z8 rfl rfl c2<|z2 (zFF underlying26 rfl sizeOf23 rfl rfl)<|z8 rfl rfl c2<|z2 (zLf isAgg23 rfl)<|z8 rfl rfl c2<|z2 (zz underlying23 rfl)<|z8 rfl rfl c2<|z2 (yq rfl rfl)<|z2 (zPf rfl c2 rfl)<|z6 ?_
    exact ⟨(), zR1, ⟨jb (by simp_all [few1] <;> grind), trivial⟩, zLe, trivial⟩
 ·rintro _ _
  refine zy rfl (fun c1=>?_) (fun c1=>?_)
  ·refine zSr<|z2 (zAb rfl)<|z6<|zd<|zm (x := .bool _) rfl ?_
   exact ⟨_, rfl, fun h => (by cases h), fun hl => absurd hl (fun hl => by have h1 := hl.1; have h2 := hl.2.1; have h3 := hl.2.2.1; unfold few1 at c1; simp at c1; omega)⟩
  ·have hsz : f.vars.length ≤ 100 ∧ f.blocks.length ≤ 40 ∧ f.params.length ≤ 20 := by unfold few1 at c1; simp at c1; omega
   refine zf<|zSr<|z2 (zAi rfl)<|z6<|za<|zSr<|z2 (zFF underlying26 rfl sizeOf22 rfl rfl)<|z2 (zLf isAgg22 rfl)<|z2 (zz underlying22 rfl)<|z2 (zMi rfl)<|z6<|zi<|y6 (γ := Nat) [1, 29, 30] (fun k => [(31, .int .i64 k), (3, .int .i64 (wV (f.vars.take k)))]) (fun k => []) (fun k => k ≤ f.vars.length ∧ wV (f.vars.take k) ≤ 400 * k ∧ ∀ v ∈ f.vars.take k, v.name.size ≤ 400) (fun k => f.vars.length - k) 0 zR2 zLe (⟨qk _, Nat.le_refl _, by simp⟩) ?_
   rintro k ⟨hk, hw, hv⟩
   refine zSr<|z2 (y7 rfl rfl)<|z6<|za<|zl rfl (fun ck=>?_) (fun ck=>?_)
   ·have hk1 : k < f.vars.length := by omega
    have hs := wV_succ hk1
    refine zf<|za<|zi<|zSr<|z2 (q4 underlying22 sizeOf56 rfl rfl rfl (qh (by omega)))<|z2 (zh isAgg56 sizeOf56 rfl rfl)<|zo (cs := [.str ⟨#[]⟩, .int .i64 0]) zeroValue56 rfl rfl<|fun i5 => zc sizeOf56 rfl rfl rfl rfl rfl rfl .head rfl<|z6<|za<|zSr<|z2 (zq underlying56 rfl sizeOf9 (by decide) rfl rfl)<|z2 (zu (c := .str _) isAgg9 rfl ⟨_, .head⟩ rfl)<|z2 (Gv.lenT underlying9 rfl)<|z2 (yq rfl rfl)<|z6<|zl rfl (fun cn=>?_) (fun cn=>?_)
    ·refine zSr<|z2 (zAb rfl)<|z6<|zd<|zm (x := .bool _) rfl ?_
     exact ⟨_, rfl, fun h => (by cases h), fun hl => absurd hl (fun hl => by have h1 := hl.2.2.2.1 _ (ql hk1); omega)⟩
    ·refine zf<|zRg<|z2 (zMi rfl)<|z2 (zq underlying56 rfl sizeOf9 (by decide) rfl rfl)<|z2 (zu (c := .str _) isAgg9 rfl ⟨_, .head⟩ rfl)<|z2 (Gv.lenT underlying9 rfl)<|z2 (zAd rfl rfl)<|z2 (zAi rfl)<|z6<|zRg<|z2 (zAd rfl rfl)<|z2 (zMi rfl)<|z6 ?_
     exact ⟨k + 1, zR3, ⟨rfl, congrArg (AV.int .i64) (by rw [hs]; omega), trivial⟩, ⟨_, (.drop (.refl _)), rfl⟩, ⟨hk1, by omega, forall_take hk1 hv (by omega)⟩, by omega⟩
   ·obtain rfl : k = f.vars.length := by omega
    rw [qm] at hw hv
    rw [qm]
    refine y3<|za<|zSr<|z2 (zFF underlying26 rfl sizeOf24 rfl rfl)<|z2 (zLf isAgg24 rfl)<|z2 (zz underlying24 rfl)<|z2 (zMi rfl)<|z6<|zi<|y6 (γ := Nat) [46, 47] (fun k => [(48, .int .i64 k), (3, .int .i64 (wV f.vars + wBs (f.blocks.take k) : Nat))]) (fun k => []) (fun k => k ≤ f.blocks.length ∧ (0 < k → wV f.vars + wBs (f.blocks.take k) ≤ 4000) ∧ wBs (f.blocks.take k) ≤ 4000 ∧ ∀ b ∈ f.blocks.take k, littleB b) (fun k => f.blocks.length - k) 0 zR2 zLe (⟨qk _, by omega, by simp [wBs], by simp⟩) ?_
    rintro k ⟨hk, hw2, hw3, hb⟩
    refine zSr<|z2 (y7 rfl rfl)<|z6<|za<|zl rfl (fun ck=>?_) (fun ck=>?_)
    ·have hk1 : k < f.blocks.length := by omega
     obtain ⟨hb1, hb2, hb3, hb4⟩ := hf4 _ (ql hk1)
     have hs := wBs_succ hk1
     refine zf<|za<|zi<|zSr<|z2 (q4 underlying24 sizeOf66 rfl rfl rfl (qh (by omega)))<|z2 (zh isAgg66 sizeOf66 rfl rfl)<|zo (cs := [.str ⟨#[]⟩, .raw (.slice none 0 0), .raw (.slice none 0 0), .int .i64 0, .int .i64 0, .int .i64 0, .int .i64 0]) zeroValue66 rfl rfl<|fun i7 => zc sizeOf66 rfl rfl rfl rfl rfl rfl .head rfl<|z6<|za<|za<|yb (γ := Unit) [3, 7, 46, 47, 48] (fun u => [(67, .bool (few2 f.blocks[k]))]) (fun u => [(i7, .cells 66 (encBlk f.blocks[k]))]) (fun u => True) ?_ (fun _ _ h => h) ?_
     ·refine zRg<|z2 (zq underlying66 rfl sizeOf9 (by decide) rfl rfl)<|z2 (zu (c := .str _) isAgg9 rfl ⟨_, .head⟩ rfl)<|z2 (Gv.lenT underlying9 rfl)<|z2 (yq rfl rfl)<|z2 (zMb rfl)<|zr (s := 56) rfl (fun c3=>?_) (fun c3=>?_)
      ·refine z7 rfl rfl c3<|z7 rfl rfl c3<|z7 rfl rfl c3<|z7 rfl rfl c3<|z2 (zPt rfl c3 rfl)<|z2 (zMb rfl)<|z7 rfl rfl rfl<|z7 rfl rfl rfl<|z7 rfl rfl rfl<|z7 rfl rfl rfl<|z2 (zPt rfl rfl rfl)<|z6 ?_
       exact ⟨(), zR5, ⟨jb (by simp_all [few2] <;> grind), trivial⟩, zLe, trivial⟩
      ·refine z8 rfl rfl c3<|z2 (zq underlying66 rfl sizeOf59 (by decide) rfl rfl)<|z8 rfl rfl c3<|z2 (zu (c := .fro _ _) isAgg59 rfl ⟨_, .head⟩ rfl)<|z8 rfl rfl c3<|z2 (zz underlying59 rfl)<|z8 rfl rfl c3<|z2 (yq rfl rfl)<|z2 (zPf rfl c3 rfl)<|z2 (zMb rfl)<|zr (s := 62) rfl (fun c4=>?_) (fun c4=>?_)
       ·refine z7 rfl rfl c4<|z7 rfl rfl c4<|z7 rfl rfl c4<|z7 rfl rfl c4<|z2 (zPt rfl c4 rfl)<|z6 ?_
        exact ⟨(), zR5, ⟨jb (by simp_all [few2] <;> grind), trivial⟩, zLe, trivial⟩
       ·refine z8 rfl rfl c4<|z2 (zq underlying66 rfl sizeOf60 (by decide) rfl rfl)<|z8 rfl rfl c4<|z2 (zu (c := .fro _ _) isAgg60 rfl ⟨_, .head⟩ rfl)<|z8 rfl rfl c4<|z2 (zz underlying60 rfl)<|z8 rfl rfl c4<|z2 (yq rfl rfl)<|z2 (zPf rfl c4 rfl)<|z6 ?_
        exact ⟨(), zR5, ⟨jb (by simp_all [few2] <;> grind), trivial⟩, zLe, trivial⟩
     ·rintro _ _
      refine zy rfl (fun c2=>?_) (fun c2=>?_)
      ·refine zSr<|z2 (zAb rfl)<|z6<|zd<|zm (x := .bool _) rfl ?_
       exact ⟨_, rfl, fun h => (by cases h), fun hl => absurd hl (fun hl => by obtain ⟨h1, h2, h3, _⟩ := hl.2.2.2.2.1 _ (ql hk1); unfold few2 at c2; simp at c2; omega)⟩
      ·have hsb : f.blocks[k].name.size ≤ 400 ∧ f.blocks[k].phis.length ≤ 400 ∧ f.blocks[k].insts.length ≤ 400 := by unfold few2 at c2; simp at c2; omega
       refine zf<|zSr<|z2 (zMi rfl)<|z2 (zq underlying66 rfl sizeOf9 (by decide) rfl rfl)<|z2 (zu (c := .str _) isAgg9 rfl ⟨_, .head⟩ rfl)<|z2 (Gv.lenT underlying9 rfl)<|z2 (zq underlying66 rfl sizeOf59 (by decide) rfl rfl)<|z2 (zu (c := .fro _ _) isAgg59 rfl ⟨_, .head⟩ rfl)<|z2 (zz underlying59 rfl)<|z2 (zq underlying66 rfl sizeOf60 (by decide) rfl rfl)<|z2 (zu (c := .fro _ _) isAgg60 rfl ⟨_, .head⟩ rfl)<|z2 (zz underlying60 rfl)<|z2 (zAd rfl rfl)<|z2 (Gv.mul rfl rfl (by unfold I64; omega))<|z2 (zAd rfl rfl)<|z2 (zAd rfl rfl)<|z2 (zAi rfl)<|z6<|za<|zSr<|z2 (zq underlying66 rfl sizeOf59 (by decide) rfl rfl)<|z2 (zu (c := .fro _ _) isAgg59 rfl ⟨_, .head⟩ rfl)<|z2 (zz underlying59 rfl)<|z2 (zMi rfl)<|z6<|zi<|y6 (γ := Nat) [7, 46, 47, 48, 83, 84] (fun m => [(85, .int .i64 m), (3, .int .i64 (wV f.vars + wBs (f.blocks.take k) + (f.blocks[k].name.size + 10 * (f.blocks[k].phis.length + f.blocks[k].insts.length)) + wP (f.blocks[k].phis.take m) : Nat))]) (fun m => [(i7, .cells 66 (encBlk f.blocks[k]))]) (fun m => m ≤ f.blocks[k].phis.length ∧ wP (f.blocks[k].phis.take m) ≤ 800 * m ∧ ∀ p ∈ f.blocks[k].phis.take m, p.args.length ≤ 400 ∧ p.from_.length ≤ 400) (fun m => f.blocks[k].phis.length - m) 0 ⟨rfl, (congrArg (AV.int .i64) (by simp [wP] <;> omega)), trivial⟩ zLe (⟨qk _, by simp [wP], by simp⟩) ?_
       rintro m ⟨hm, hwp, hp⟩
       refine zSr<|z2 (y7 rfl rfl)<|z6<|za<|zl rfl (fun cm=>?_) (fun cm=>?_)
       ·have hm1 : m < f.blocks[k].phis.length := by omega
        obtain ⟨hq1, hq2⟩ := hb3 _ (ql hm1)
        have hl6 := hq1.lt
        have hl7 := hq2.lt
        have hs2 := wP_succ hm1
        refine zf<|za<|zi<|zSr<|z2 (q4 underlying59 sizeOf95 rfl rfl rfl (qh (by omega)))<|z2 (zh isAgg95 sizeOf95 rfl rfl)<|zo (cs := [.int .i64 0, .raw (.slice none 0 0), .raw (.slice none 0 0)]) zeroValue95 rfl rfl<|fun i9 => zc sizeOf95 rfl rfl rfl rfl rfl rfl .head rfl<|z6<|za<|za<|yb (γ := Unit) [3, 7, 9, 46, 47, 48, 83, 84, 85] (fun u => [(102, .bool (decide ((4000 : Int) < (wV f.vars + wBs (f.blocks.take k) + (f.blocks[k].name.size + 10 * (f.blocks[k].phis.length + f.blocks[k].insts.length)) + wP (f.blocks[k].phis.take m) : Nat)) || (decide ((400 : Int) < f.blocks[k].phis[m].args.length) || decide ((400 : Int) < f.blocks[k].phis[m].from_.length))))]) (fun u => [(i9, .cells 95 (encPhi f.blocks[k].phis[m])), (i7, .cells 66 (encBlk f.blocks[k]))]) (fun u => True) ?_ (fun _ _ h => h) ?_
        ·refine zRg<|z2 (zMi rfl)<|z2 (yq rfl rfl)<|z2 (zMb rfl)<|zr (s := 91) rfl (fun c5=>?_) (fun c5=>?_)
         ·refine z7 rfl rfl c5<|z7 rfl rfl c5<|z7 rfl rfl c5<|z7 rfl rfl c5<|z2 (zPt rfl c5 rfl)<|z2 (zMb rfl)<|z7 rfl rfl rfl<|z7 rfl rfl rfl<|z7 rfl rfl rfl<|z7 rfl rfl rfl<|z2 (zPt rfl rfl rfl)<|z6 ?_
          exact ⟨(), zR9, ⟨jb (by simp_all <;> grind), trivial⟩, zLe, trivial⟩
         ·refine z8 rfl rfl c5<|z2 (zq underlying95 rfl sizeOf23 (by decide) rfl rfl)<|z8 rfl rfl c5<|z2 (zu (c := .fro _ _) isAgg23 rfl ⟨_, .head⟩ rfl)<|z8 rfl rfl c5<|z2 (zz underlying23 rfl)<|z8 rfl rfl c5<|z2 (yq rfl rfl)<|z2 (zPf rfl c5 rfl)<|z2 (zMb rfl)<|zr (s := 97) rfl (fun c6=>?_) (fun c6=>?_)
          ·refine z7 rfl rfl c6<|z7 rfl rfl c6<|z7 rfl rfl c6<|z7 rfl rfl c6<|z2 (zPt rfl c6 rfl)<|z6 ?_
           exact ⟨(), zR9, ⟨jb (by simp_all <;> grind), trivial⟩, zLe, trivial⟩
          ·refine z8 rfl rfl c6<|z2 (zq underlying95 rfl sizeOf23 (by decide) rfl rfl)<|z8 rfl rfl c6<|z2 (zu (c := .fro _ _) isAgg23 rfl ⟨_, .head⟩ rfl)<|z8 rfl rfl c6<|z2 (zz underlying23 rfl)<|z8 rfl rfl c6<|z2 (yq rfl rfl)<|z2 (zPf rfl c6 rfl)<|z6 ?_
           exact ⟨(), zR9, ⟨jb (by simp_all <;> grind), trivial⟩, zLe, trivial⟩
        ·rintro _ _
         refine zy rfl (fun cp=>?_) (fun cp=>?_)
         ·refine zSr<|z2 (zAb rfl)<|z6<|zd<|zm (x := .bool _) rfl ?_
          exact ⟨_, rfl, fun h => (by cases h), fun hl => absurd hl (fun hl => by obtain ⟨_, _, _, h4, _⟩ := hl.2.2.2.2.1 _ (ql hk1); have h5 := h4 _ (ql hm1); have h9 := little_le hl hk1; have hwb : wB f.blocks[k] = f.blocks[k].name.size + 10 * (f.blocks[k].phis.length + f.blocks[k].insts.length) + wP f.blocks[k].phis + wX f.blocks[k].insts := rfl; have h10 := wP_take f.blocks[k].phis m; simp only [Bool.or_eq_true, qy] at cp; omega)⟩
         ·rcases Bool.or_eq_false_iff.1 cp with ⟨a1, a2⟩
          rcases Bool.or_eq_false_iff.1 a2 with ⟨a3, a4⟩
          have a3 := of_decide_eq_false a3
          have a4 := of_decide_eq_false a4
          refine zf<|zRg<|z2 (zMi rfl)<|z2 (zq underlying95 rfl sizeOf23 (by decide) rfl rfl)<|z2 (zu (c := .fro _ _) isAgg23 rfl ⟨_, .head⟩ rfl)<|z2 (zz underlying23 rfl)<|z2 (zq underlying95 rfl sizeOf23 (by decide) rfl rfl)<|z2 (zu (c := .fro _ _) isAgg23 rfl ⟨_, .head⟩ rfl)<|z2 (zz underlying23 rfl)<|z2 (zAd rfl rfl)<|z2 (zAd rfl rfl)<|z2 (zAi rfl)<|z6<|zRg<|z2 (zAd rfl rfl)<|z2 (zMi rfl)<|z6 ?_
          exact ⟨m + 1, zR6, ⟨rfl, congrArg (AV.int .i64) (by rw [hs2]; omega), trivial⟩, ⟨_, (.drop (.refl _)), rfl⟩, ⟨hm1, by omega, forall_take hm1 hp ⟨by omega, by omega⟩⟩, by omega⟩
       ·obtain rfl : m = f.blocks[k].phis.length := by omega
        rw [qm] at hwp hp
        rw [qm]
        refine y3<|za<|zSr<|z2 (zq underlying66 rfl sizeOf60 (by decide) rfl rfl)<|z2 (zu (c := .fro _ _) isAgg60 rfl ⟨_, .head⟩ rfl)<|z2 (zz underlying60 rfl)<|z2 (zMi rfl)<|z6<|zi<|y6 (γ := Nat) [46, 47, 48, 114, 115] (fun m => [(116, .int .i64 m), (3, .int .i64 (wV f.vars + wBs (f.blocks.take k) + (f.blocks[k].name.size + 10 * (f.blocks[k].phis.length + f.blocks[k].insts.length)) + wP f.blocks[k].phis + wX (f.blocks[k].insts.take m) : Nat))]) (fun m => [(i7, .cells 66 (encBlk f.blocks[k]))]) (fun m => m ≤ f.blocks[k].insts.length ∧ wX (f.blocks[k].insts.take m) ≤ 400 * m ∧ ∀ p ∈ f.blocks[k].insts.take m, p.args.length ≤ 400) (fun m => f.blocks[k].insts.length - m) 0 ⟨rfl, (congrArg (AV.int .i64) (by simp [wX] <;> omega)), trivial⟩ zLe (⟨qk _, by simp [wX], by simp⟩) ?_
        rintro m ⟨hm, hwx, hx⟩
        refine zSr<|z2 (y7 rfl rfl)<|z6<|za<|zl rfl (fun cm=>?_) (fun cm=>?_)
        ·have hm1 : m < f.blocks[k].insts.length := by omega
         have hq1 := hb4 _ (ql hm1)
         have hl6 := hq1.lt
         have hs2 := wX_succ hm1
         refine zf<|za<|zi<|zSr<|z2 (q4 underlying60 sizeOf33 rfl rfl rfl (qh (by omega)))<|z2 (zh isAgg33 sizeOf33 rfl rfl)<|zo (cs := [.int .i64 0, .int .i64 0, .raw (.slice none 0 0), .int .i64 0]) zeroValue33 rfl rfl<|fun i11 => zc sizeOf33 rfl rfl rfl rfl rfl rfl .head rfl<|z6<|za<|za<|yb (γ := Unit) [3, 11, 46, 47, 48, 114, 115, 116] (fun u => [(127, .bool (decide ((4000 : Int) < (wV f.vars + wBs (f.blocks.take k) + (f.blocks[k].name.size + 10 * (f.blocks[k].phis.length + f.blocks[k].insts.length)) + wP f.blocks[k].phis + wX (f.blocks[k].insts.take m) : Nat)) || decide ((400 : Int) < f.blocks[k].insts[m].args.length)))]) (fun u => [(i11, .cells 33 (encInst f.blocks[k].insts[m])), (i7, .cells 66 (encBlk f.blocks[k]))]) (fun u => True) ?_ (fun _ _ h => h) ?_
         ·refine zRg<|z2 (zMi rfl)<|z2 (yq rfl rfl)<|z2 (zMb rfl)<|zr (s := 122) rfl (fun c7=>?_) (fun c7=>?_)
          ·refine z7 rfl rfl c7<|z7 rfl rfl c7<|z7 rfl rfl c7<|z7 rfl rfl c7<|z2 (zPt rfl c7 rfl)<|z6 ?_
           exact ⟨(), zR8, ⟨jb (by simp_all <;> grind), trivial⟩, zLe, trivial⟩
          ·refine z8 rfl rfl c7<|z2 (zq underlying33 rfl sizeOf23 (by decide) rfl rfl)<|z8 rfl rfl c7<|z2 (zu (c := .fro _ _) isAgg23 rfl ⟨_, .head⟩ rfl)<|z8 rfl rfl c7<|z2 (zz underlying23 rfl)<|z8 rfl rfl c7<|z2 (yq rfl rfl)<|z2 (zPf rfl c7 rfl)<|z6 ?_
           exact ⟨(), zR8, ⟨jb (by simp_all <;> grind), trivial⟩, zLe, trivial⟩
         ·rintro _ _
          refine zy rfl (fun cp=>?_) (fun cp=>?_)
          ·refine zSr<|z2 (zAb rfl)<|z6<|zd<|zm (x := .bool _) rfl ?_
           exact ⟨_, rfl, fun h => (by cases h), fun hl => absurd hl (fun hl => by obtain ⟨_, _, _, _, h4⟩ := hl.2.2.2.2.1 _ (ql hk1); have h5 := h4 _ (ql hm1); have h9 := little_le hl hk1; have hwb : wB f.blocks[k] = f.blocks[k].name.size + 10 * (f.blocks[k].phis.length + f.blocks[k].insts.length) + wP f.blocks[k].phis + wX f.blocks[k].insts := rfl; have h10 := wX_take f.blocks[k].insts m; simp only [Bool.or_eq_true, qy] at cp; omega)⟩
          ·rcases Bool.or_eq_false_iff.1 cp with ⟨a1, a2⟩
           have a2 := of_decide_eq_false a2
           refine zf<|zRg<|z2 (zMi rfl)<|z2 (zq underlying33 rfl sizeOf23 (by decide) rfl rfl)<|z2 (zu (c := .fro _ _) isAgg23 rfl ⟨_, .head⟩ rfl)<|z2 (zz underlying23 rfl)<|z2 (zAd rfl rfl)<|z2 (zAi rfl)<|z6<|zRg<|z2 (zAd rfl rfl)<|z2 (zMi rfl)<|z6 ?_
           exact ⟨m + 1, zR5, ⟨rfl, congrArg (AV.int .i64) (by rw [hs2]; omega), trivial⟩, ⟨_, (.drop (.refl _)), rfl⟩, ⟨hm1, by omega, forall_take hm1 hx (by omega)⟩, by omega⟩
        ·obtain rfl : m = f.blocks[k].insts.length := by omega
         rw [qm] at hwx hx
         rw [qm]
         refine y3<|zSr<|z2 (zMi rfl)<|z2 (yq rfl rfl)<|z6<|zl rfl (fun cz=>?_) (fun cz=>?_)
         ·refine zSr<|z2 (zAb rfl)<|z6<|zd<|zm (x := .bool _) rfl ?_
          exact ⟨_, rfl, fun h => (by cases h), fun hl => absurd hl (fun hl => by have h9 := little_le hl hk1; have hwb : wB f.blocks[k] = f.blocks[k].name.size + 10 * (f.blocks[k].phis.length + f.blocks[k].insts.length) + wP f.blocks[k].phis + wX f.blocks[k].insts := rfl; omega)⟩
         ·have hwb : wB f.blocks[k] = f.blocks[k].name.size + 10 * (f.blocks[k].phis.length + f.blocks[k].insts.length) + wP f.blocks[k].phis + wX f.blocks[k].insts := rfl
          refine zf<|zRg<|z2 (zAd rfl rfl)<|z2 (zMi rfl)<|z6 ?_
          exact ⟨k + 1, zR2, ⟨rfl, congrArg (AV.int .i64) (by rw [hs]; omega), trivial⟩, ⟨_, (.drop (.refl _)), rfl⟩, ⟨hk1, by omega, by omega, forall_take hk1 hb ⟨hsb.1, hsb.2.1, hsb.2.2, hp, hx⟩⟩, by omega⟩
    ·obtain rfl : k = f.blocks.length := by omega
     rw [qm] at hw2 hw3 hb
     refine y3<|zSr<|z2 (zAb rfl)<|z6<|zd<|zm (x := .bool _) rfl ?_
     exact ⟨_, rfl, fun _ => ⟨hsz.1, hsz.2.1, hsz.2.2, hv, hb, fun hne => hw2 (List.length_pos_iff.2 hne)⟩, fun _ => rfl⟩
theorem lawShaped2_spec (f : PFunc) (hf : okFunc f) (hn : okNames f) (hL : Letters E) : AFun prog E 119 [.agg (encF f)] (.bool (decide (ShapedP f))) := by
 refine zn func119 rfl (by decide) rfl<|zSr<|y1 (cs := _) rfl rfl rfl<|z2 (zAb rfl)<|z6<|zSr<|z2 (zh isAgg26 sizeOf26 rfl rfl)<|zb (refShaped_spec _ (by assumption) (by assumption) hL) rfl<|z2 (zAb rfl)<|z6<|zd<|zm (x := .bool _) rfl ?_
 rfl
noncomputable def fewB (f : PFunc) : Bool := @decide (little f) (Classical.propDecidable _)
theorem fewB_iff (f : PFunc) : fewB f = true ↔ little f := by unfold fewB; exact @decide_eq_true_iff _ (Classical.propDecidable _)
theorem fewT_spec (f : PFunc) (hf : wFunc f) : AFun prog E 12 [.agg (encF f)] (.bool (fewB f)) :=
 (fewIff_spec f hf).mono fun x O' ⟨b, e, h⟩ => by
  rw [e]
  congr 1
  rw [qq, h, fewB_iff]
theorem lawTyped8_spec (f : PFunc) (hf : small f) (hL : Letters E) : AFun prog E 75 [.agg (encF f)] (.bool (typedB f)) := by
 have hs := lawShaped2_spec (E := E) f hf.ok hf.names hL
 refine zn func75 rfl (by decide) rfl<|zSr<|y1 (cs := _) rfl rfl rfl<|z2 (zAb rfl)<|z6<|zSr<|z2 (zh isAgg26 sizeOf26 rfl rfl)<|zb (hs) rfl ?_
 by_cases g4 : ShapedP f
 ·refine z2 (zMb rfl)<|z8 rfl rfl (qu g4)<|z2 (zh isAgg26 sizeOf26 rfl rfl)<|z8 rfl rfl (qu g4)<|zb (refTyped_spec f hf g4) rfl<|z2 (zPt rfl (qu g4) rfl)<|z2 (zAb rfl)<|z6<|zd<|zm (x := .bool _) rfl ?_
  exact jb (by unfold typedB; rw [shapedB_eq, qu g4]; rfl)
 ·refine z2 (zMb rfl)<|z7 rfl rfl (qv g4)<|z7 rfl rfl (qv g4)<|z2 (zPf rfl (qv g4) rfl)<|z2 (zAb rfl)<|z6<|zd<|zm (x := .bool _) rfl ?_
  exact jb (by unfold typedB; rw [shapedB_eq, qv g4]; rfl)
theorem lawTyped_spec (f : PFunc) (hw : wFunc f) (hL : Letters E) : AFun prog E 37 [.agg (encF f)] (.bool (fewB f && typedB f)) := by
 refine zn func37 rfl (by decide) rfl<|zSr<|y1 (cs := _) rfl rfl rfl<|z2 (zAb rfl)<|z6<|zSr<|z2 (zh isAgg26 sizeOf26 rfl rfl)<|zb (fewT_spec f hw) rfl<|z2 (zMb rfl)<|zr (s := 5) rfl (fun g=>?_) (fun g=>?_)
 ·refine z8 rfl rfl g<|z2 (zh isAgg26 sizeOf26 rfl rfl)<|z8 rfl rfl g<|zb (lawTyped8_spec f ((fewB_iff f).1 g).small hL) rfl<|z2 (zPt rfl g rfl)<|z2 (zAb rfl)<|z6<|zd<|zm (x := .bool _) rfl ?_
  exact jb (by rw [g]; rfl)
 ·refine z7 rfl rfl g<|z7 rfl rfl g<|z2 (zPf rfl g rfl)<|z2 (zAb rfl)<|z6<|zd<|zm (x := .bool _) rfl ?_
  exact jb (by rw [g]; rfl)
noncomputable def lawSing (f : PFunc) : Bool := fewB f && typedB f && singB f
theorem and3 {a b : Bool} (h : (a && b) = true) : a = true ∧ b = true := by simpa using h
theorem singR_typed {f : PFunc} (h : typedB f = true) : singR f = singB f :=
 singR_eq (typedB_ends h) fun b hb p hp c hc => by
  have h1 := ((typedB_shaped h).2.2.2.2.2 b hb).1 p hp
  have h2 := List.all_eq_true.1 h1.2.2.2.2 c hc
  simpa [hasB] using h2
theorem lawSingle_spec (f : PFunc) (hw : wFunc f) (hL : Letters E) : AFun prog E 24 [.agg (encF f)] (.bool (lawSing f)) := by
 refine zn func24 rfl (by decide) rfl<|zSr<|y1 (cs := _) rfl rfl rfl<|z2 (zAb rfl)<|z6<|zSr<|z2 (zh isAgg26 sizeOf26 rfl rfl)<|zb (lawTyped_spec f hw hL) rfl<|z2 (zMb rfl)<|zr (s := 5) rfl (fun g=>?_) (fun g=>?_)
 ·refine z8 rfl rfl g<|z2 (zh isAgg26 sizeOf26 rfl rfl)<|z8 rfl rfl g<|zb (refSingle_spec f (typedB_ends (and3 g).2) ((fewB_iff f).1 (and3 g).1).small (typedB_shaped (and3 g).2)) rfl<|z2 (zPt rfl g rfl)<|z2 (zAb rfl)<|z6<|zd<|zm (x := .bool _) rfl ?_
  exact jb (by unfold lawSing; rw [g, singR_typed (and3 g).2]; rfl)
 ·refine z7 rfl rfl g<|z7 rfl rfl g<|z2 (zPf rfl g rfl)<|z2 (zAb rfl)<|z6<|zd<|zm (x := .bool _) rfl ?_
  exact jb (by unfold lawSing; rw [g]; rfl)
end Go.Proofs.YtjnpcfpecilejaaGreatDoor
namespace Go.Proofs.YtjnpcfpecilejaaGreatDoor
open Go.Proofs.Tryz
open Go.Proofs Go.Lib Go.Shelf Go.RowKit
theorem pl125 : Places prog 125 #[(0, 3), (3, 1), (4, 1), (5, 1)] [.raw (.slice none 0 0), .raw (.slice none 0 0), .raw (.slice none 0 0), .raw (.slice none 0 0), .raw (.slice none 0 0), .raw (.slice none 0 0)] := ⟨_, _, underlying125, zeroValue125, fun w => by kernel_rfl, rfl⟩
variable {E : World}
set_option maxRecDepth 20000
theorem matching_spec (op : Int) : AFun prog E 112 [.int .i64 op] (.int .i64 (matchQ op)) := by
 refine zn func112 rfl (by decide) rfl<|zSr<|z2 (zAi rfl)<|z6<|za<|zSr<|z2 (zMi rfl)<|z6<|zi<|za<|zSr<|z2 (zw rfl rfl)<|z2 (zAb rfl)<|z6<|yb (γ := Bool) [0] (fun u => [(4, .bool u)]) (fun u => []) (fun u => u = decide (op = 2 ∨ op = 3 ∨ op = 4)) ?_ (fun _ _ h => h) ?_
 ·refine zy rfl (fun c1=>?_) (fun c1=>?_)
  ·refine zf ?_
   exact ⟨_, zR1, zR1, zLe, by simp_all⟩
  ·refine zSr<|z2 (zw rfl rfl)<|z2 (zAb rfl)<|z6<|zy rfl (fun c2=>?_) (fun c2=>?_)
   ·refine zf ?_
    exact ⟨_, zR1, zR1, zLe, by simp_all⟩
   ·refine zRg<|z2 (zw rfl rfl)<|z2 (zAb rfl)<|z6 ?_
    exact ⟨_, zR1, zR1, zLe, by simp_all⟩
 ·rintro u hu
  subst hu
  refine zl rfl (fun c=>?_) (fun c=>?_)
  ·refine zSr<|z2 (zMi rfl)<|z2 (Gv.addW rfl rfl)<|z2 (Gv.subW rfl rfl)<|z2 (zAi rfl)<|z6<|zd<|zm (x := .int _ _) rfl ?_
   rw [matchQ, if_pos c, wrap_fit (z := 21 + op) (by unfold is64; omega), wrap_fit (by unfold is64; omega)]; congr 1; omega
  ·refine zf<|zSr<|z2 (zAi rfl)<|z6<|zd<|zm (x := .int _ _) rfl ?_
   rw [matchQ, if_neg c]
def mapsTo (f : PFunc) (es : List (Int × List Plc)) : Prop := ∀ q, mg q es = plTo f f.blocks.length q
set_option maxHeartbeats 4000000 in
theorem checks_spec (f : PFunc) (hf : small f) : ACall prog E 111 [.agg (encF f)] [] fun x O => ∃ g : Nat × List (Int × List Plc), x = mref g.1 ∧ O = [(0, mfroO eP g.1 g.2)] ∧ mapsTo f g.2 := by
 have hn := hf.2.2.1
 have hpl : ∀ q k, k ≤ f.blocks.length → (plTo f k q).length ≤ k * 1000 := fun q k hk => plTo_len (fun b hb => (hf.2.2.2.2 b hb).2.2.1) k hk
 refine ACall.exact (γ := Nat × List (Int × List Plc)) (x := fun g => mref g.1) (M := fun g => [(0, mfroO eP g.1 g.2)]) (p := fun g => mapsTo f g.2)<|zn func111 rfl (by decide) rfl<|zSr<|y1 (cs := _) rfl rfl rfl<|z2 (zAr rfl)<|z6<|zSr<|AOps.makeMapN eP 109<|fun b8 => z2 (q3 (v := mref _) rfl)<|z6<|za<|zSr<|z2 (zFF underlying26 rfl sizeOf24 rfl rfl)<|z2 (zLf isAgg24 rfl)<|z2 (zz underlying24 rfl)<|z2 (zMi rfl)<|z6<|zi<|y6 (γ := Nat × List (Int × List Plc)) [3, 10, 11] (fun g => [(12, .int .i64 g.1)]) (fun g => [(0, mnestO eP 109 b8 g.2)]) (fun g => g.1 ≤ f.blocks.length ∧ ∀ q, mg q g.2 = plTo f g.1 q) (fun g => f.blocks.length - g.1) (0, []) zR1 zLe (⟨qk _, fun q => rfl⟩) ?_
 rintro ⟨i, es⟩ ⟨hi, hes⟩
 try dsimp only at *
 refine zSr<|z2 (y7 rfl rfl)<|z6<|za<|zl rfl (fun ci=>?_) (fun ci=>?_)
 ·have hi2 : i < f.blocks.length := by simp at ci; omega
  obtain ⟨b, hbi⟩ : ∃ b, f.blocks[i] = b := ⟨_, rfl⟩
  have hget : f.blocks[i]? = some b := by rw [qh hi2, hbi]
  obtain ⟨hb0, hb1, hb2, hb3, hb4⟩ := hf.2.2.2.2 b (hbi ▸ ql hi2)
  refine zf<|za<|zi<|zSr<|z2 (zMi rfl)<|z2 (zIM i underlying24 sizeOf66 rfl rfl rfl hget)<|z2 (zh isAgg66 sizeOf66 rfl rfl)<|zo (cs := [.str ⟨#[]⟩, .raw (.slice none 0 0), .raw (.slice none 0 0), .int .i64 0, .int .i64 0, .int .i64 0, .int .i64 0]) zeroValue66 rfl rfl<|fun i5 => z2 (zAi rfl)<|zc sizeOf66 rfl rfl rfl rfl rfl rfl .head rfl<|zg (ya (t := 5) rfl .head)<|z6<|zSr<|z2 (zFF underlying66 rfl sizeOf60 rfl rfl)<|z2 (zLf isAgg60 rfl)<|z2 (zz underlying60 rfl)<|z2 (zMi rfl)<|z6<|zi<|y6 (γ := Nat × List (Int × List Plc)) [3, 4, 10, 11, 12, 18, 19] (fun g => [(20, .int .i64 g.1)]) (fun g => [(0, mnestO eP 109 b8 g.2)]) (fun g => g.1 ≤ b.insts.length ∧ ∀ q, mg q g.2 = plTo f i q ++ plIn q i (b.insts.take g.1)) (fun g => b.insts.length - g.1) (0, es) zR1 zLe (⟨qk _, fun q => by rw [hes q]; unfold plIn; split <;> simp⟩) ?_
  rintro ⟨j, es⟩ ⟨hj, hes⟩
  try dsimp only at *
  refine zSr<|z2 (y7 rfl rfl)<|z6<|za<|zl rfl (fun cj=>?_) (fun cj=>?_)
  ·have hj2 : j < b.insts.length := by simp at cj; omega
   obtain ⟨z, hz⟩ : ∃ z, b.insts[j] = z := ⟨_, rfl⟩
   have hstep : ∀ q, plTo f i q ++ plIn q i (b.insts.take (j + 1)) = mg q es ++ if isChk q ∧ z.op = q then [((i : Int), (j : Int))] else [] := fun q => by rw [plIn_succ q i hj2, hz, ← qj, ← hes q]
   have hlen : ∀ q, (mg q es).length ≤ 2000000 := fun q => by
    have h1 := hpl q i hi
    have h2 := plIn_len q i (b.insts.take j)
    rw [List.length_take] at h2
    rw [hes q, qn]; omega
   refine zf<|za<|zi<|zSr<|z2 (zMi rfl)<|z2 (zIM j underlying60 sizeOf33 rfl rfl rfl (by rw [qh hj2, hz]))<|z2 (zh isAgg33 sizeOf33 rfl rfl)<|zo (cs := [.int .i64 0, .int .i64 0, .raw (.slice none 0 0), .int .i64 0]) zeroValue33 rfl rfl<|fun i7 => z2 (zAi rfl)<|zc sizeOf33 rfl rfl rfl rfl rfl rfl .head rfl<|zg (ya (t := 7) rfl .head)<|z6<|za<|yb (γ := Bool) [3, 4, 6, 7, 10, 11, 12, 18, 19, 20] (fun u => [(32, .bool u)]) (fun u => [(0, mnestO eP 109 b8 es)]) (fun u => u = decide (isChk z.op)) ?_ (fun _ _ h => h) ?_
   ·refine zRg<|z2 (zFF underlying33 rfl sizeOf31 rfl rfl)<|z2 (zLi isAgg31 rfl)<|z2 (q0 rfl rfl)<|z2 (zMb rfl)<|zr (s := 28) rfl (fun c1=>?_) (fun c1=>?_)
    ·refine z8 rfl rfl c1<|z2 (zFF underlying33 rfl sizeOf31 rfl rfl)<|z8 rfl rfl c1<|z2 (zLi isAgg31 rfl)<|z8 rfl rfl c1<|z2 (Gv.leq rfl rfl)<|z2 (zPt rfl c1 rfl)<|z6 ?_
     exact ⟨_, zR10, zR1, zLe, decide_eq_decide.2 (by unfold isChk; have := of_decide_eq_true c1; omega)⟩
    ·refine z7 rfl rfl c1<|z7 rfl rfl c1<|z7 rfl rfl c1<|z2 (zPf rfl c1 rfl)<|z6 ?_
     exact ⟨_, zR10, zR1, zLe, (qv (by unfold isChk; have := of_decide_eq_false c1; omega)).symm⟩
   ·rintro u hu
    subst hu
    refine zl rfl (fun cc=>?_) (fun cc=>?_)
    ·have hlz := hlen z.op
     refine yb (γ := Unit) [3, 4, 10, 11, 12, 18, 19, 20] (fun u => []) (fun u => [(0, mnestO eP 109 b8 (ms z.op (mg z.op es ++ [((i : Int), (j : Int))]) es))]) (fun u => True) ?_ (fun _ _ h => h) ?_
     ·refine zt (fun j => false) (by kernel_rfl) rfl (zp (.rest _))<|zTk 0 rfl (yt (v := mref _) rfl)<|zTk 1 rfl (zFF underlying33 rfl sizeOf31 rfl rfl)<|zTk 2 rfl (zLi isAgg31 rfl)<|zTk 3 rfl (yt (v := mref _) rfl)<|zTk 4 rfl (zFF underlying33 rfl sizeOf31 rfl rfl)<|zTk 5 rfl (zLi isAgg31 rfl)<|zTk 7 rfl (zMi rfl)<|zTk 8 rfl (zMi rfl)<|zTk 9 rfl (zx (cps := [(0, [_]), (1, [_])]) (rs := [_, _]) pl109 rfl rfl rfl)<|yc (i := 6) (j := 10) rfl rfl (by kernel_rfl) ?_ ?_
      ·refine AOps.mapTake underlying178 underlying31 zeroValue102 rfl rfl .head<|fun i39 => z6<|zOn 10 rfl<|y4 (rows := [[_, _]]) ps102_1 rfl rfl rfl rfl rfl<|z6<|zOn 11 rfl<|yo (k := 2) underlying102 type109 rfl rfl rfl rfl rfl (fun _ => .head) (by rw [eP.av_len]; rfl) (by decide) rfl (by show (_ + 1) * 16 ≤ _; omega) (by show _ + 1 ≤ _; omega)<|fun i44 => z6<|zOn 12 rfl<|AOps.mapPut (r := mg z.op es ++ [((i : Int), (j : Int))]) underlying178 underlying31 rfl rfl rfl .head .head rfl (eP.av_push (mg z.op es) ((i : Int), (j : Int))) (by rw [qn]; rfl)<|z6<|zDn ?_
       exact ⟨(), zR8, trivial, zLe, trivial⟩
      ·refine y4 (rows := [[_, _]]) ps102_1 rfl rfl rfl rfl rfl<|z6<|zOn 6 rfl<|AOps.mapTake underlying178 underlying31 zeroValue102 rfl rfl .head<|fun i39 => z6<|zOn 11 rfl<|yo (k := 2) underlying102 type109 rfl rfl rfl rfl rfl (fun _ => .head) (by rw [eP.av_len]; rfl) (by decide) rfl (by show (_ + 1) * 16 ≤ _; omega) (by show _ + 1 ≤ _; omega)<|fun i44 => z6<|zOn 12 rfl<|AOps.mapPut (r := mg z.op es ++ [((i : Int), (j : Int))]) underlying178 underlying31 rfl rfl rfl .head .head rfl (eP.av_push (mg z.op es) ((i : Int), (j : Int))) (by rw [qn]; rfl)<|z6<|zDn ?_
       exact ⟨(), zR8, trivial, zLe, trivial⟩
     ·rintro _ _
      refine zRg<|z2 (zAd rfl rfl)<|z2 (zMi rfl)<|z6 ?_
      exact ⟨(j + 1, ms z.op (mg z.op es ++ [((i : Int), (j : Int))]) es), zR7, zR1, zLe, ⟨hj2, fun q => by rw [hstep, mg_ms]; by_cases e : q = z.op; rw [if_pos e, if_pos ⟨e ▸ cc, e.symm⟩, e]; rw [if_neg e, if_neg (fun h : isChk q ∧ z.op = q => e h.2.symm), List.append_nil]⟩, by dsimp only; omega⟩
    ·refine zf<|zRg<|z2 (zAd rfl rfl)<|z2 (zMi rfl)<|z6 ?_
     exact ⟨(j + 1, es), zR7, zR1, zLe, ⟨hj2, fun q => by rw [hstep, if_neg (fun h : isChk q ∧ z.op = q => cc (h.2 ▸ h.1)), List.append_nil]⟩, by dsimp only; omega⟩
  ·have hjn : j = b.insts.length := by simp at cj; omega
   subst hjn
   refine y3<|zRg<|z2 (zAd rfl rfl)<|z2 (zMi rfl)<|z6 ?_
   exact ⟨(i + 1, es), zR3, zR1, zLe, ⟨hi2, fun q => by rw [hes q, qm, plTo_succ q hi2, hbi]⟩, by dsimp only; omega⟩
 ·have hin : i = f.blocks.length := by simp at ci; omega
  subst hin
  refine y3<|yd (GStep.mapKnow .head)<|zSr<|z2 (yt (v := mref _) rfl)<|z2 (q3 (v := mref _) rfl)<|z6<|zd<|zm (x := mref _) rfl ?_
  exact ⟨(b8, es), rfl, ⟨_, .refl _, rfl⟩, hes⟩
def lookR (f : PFunc) (x : AV) (O : OL) : Prop := ∃ iv : Nat, x = .tup [.po iv 0, .int .i64 0] ∧ O = [(iv, .cells 125 (viewL f (chkL f) (.raw (.slice none 0 0))))]
theorem look_bad (f : PFunc) (hf : small f) (hL : Letters E) (h : (typedB f && singB f) = false) : AFun prog E 67 [.agg (encF f)] (.tup [.raw (.pointer none), .int .i64 3]) := by
 have hR := SingRight_spec (E := E) f hf hL
 rw [h] at hR
 refine zn func67 rfl (by decide) rfl<|zSr<|y1 (cs := _) rfl rfl rfl<|z2 (zAr rfl)<|z2 (zAi rfl)<|z6<|za<|zSr<|z2 (zh isAgg26 sizeOf26 rfl rfl)<|zb (hR) rfl<|z2 (zAi rfl)<|z6<|zSr<|z2 (zMi rfl)<|z2 (yk rfl rfl)<|z6<|yr rfl rfl<|zSr<|z2 (zMi rfl)<|z2 (zAr rfl)<|z2 (zAi rfl)<|z6<|zd<|qa (x := .raw _) (y := .int _ _) rfl rfl ?_
 rfl
set_option maxHeartbeats 8000000 in
theorem look_ok (f : PFunc) (hf : small f) (hL : Letters E) (h : (typedB f && singB f) = true) : ACall prog E 67 [.agg (encF f)] [] (lookR f) := by
 have hn := hf.2.2.1
 have hvn := hf.1
 have hR := SingRight_spec (E := E) f hf hL
 rw [h] at hR
 have ht := (and3 h).1
 have hs := (and3 h).2
 have hE := typedB_ends ht
 have hS := typedB_shaped ht
 have honce : OnceP f := (onceB_iff f).1 (by unfold singB at hs; simp only [qw] at hs; exact hs.2.2.1)
 refine ACall.exact (γ := Nat) (x := fun iv => .tup [.po iv 0, .int .i64 0]) (M := fun iv => [(iv, .cells 125 (viewL f (chkL f) (.raw (.slice none 0 0))))]) (p := fun _ => True) ?_ |>.mono fun x O ⟨iv, h1, h2, _⟩ => ⟨iv, h1, h2⟩
 refine zn func67 rfl (by decide) rfl<|zSr<|y1 (cs := _) rfl rfl rfl<|z2 (zAr rfl)<|z2 (zAi rfl)<|z6<|za<|zSr<|z2 (zh isAgg26 sizeOf26 rfl rfl)<|zb (hR) rfl<|z2 (zAi rfl)<|z6<|zSr<|z2 (zMi rfl)<|z2 (yk rfl rfl)<|z6<|yn rfl rfl<|zf<|zSr<|z2 (zh isAgg26 sizeOf26 rfl rfl)<|zb (New_spec f hf hL ht) rfl<|z2 (zMu rfl)<|z2 (Gv.extract (v := .pf _) rfl rfl)<|z2 (zXi rfl rfl)<|z2 (q3 (v := .pf _) rfl)<|z2 (zAi rfl)<|z6<|za<|zSr<|z2 (zMi rfl)<|z2 (yk rfl rfl)<|z6<|yn rfl rfl<|zf<|za<|yb (γ := Nat × Nat) [1, 5] (fun z => [(7, .po z.1 0)]) (fun z => [(z.1, .cells 125 (encF f ++ [.fro 2 ((makersT f).map eP.row), .own z.2 f.vars.length, .raw (.slice none 0 0)])), (z.2, .grow 1 4 (cB (List.replicate f.vars.length false)))]) (fun z => True) ?_ (fun _ _ h => h) ?_
 ·refine zt (fun j => false) (by kernel_rfl) rfl (zp (.rest _))<|zTk 0 rfl (zh isAgg26 sizeOf26 rfl rfl)<|zTk 1 rfl (zh isAgg26 sizeOf26 rfl rfl)<|zTk 3 rfl (zFF underlying26 rfl sizeOf22 rfl rfl)<|zTk 4 rfl (zLf isAgg22 rfl)<|zTk 5 rfl (zz underlying22 rfl)<|yc (i := 2) (j := 6) rfl rfl (by kernel_rfl) ?_ ?_
  ·refine zb (Makers_spec f hf hL ht) rfl<|z6<|zOn 6 rfl<|AOps.makeB (m := f.vars.length) underlying111 type4 rfl rfl rfl rfl rfl (by simp) (by simp) (by show (1 : Int) * _ ≤ _; omega) (by omega)<|fun i35 => z6<|zTk 7 rfl (zx (cps := [(0, [_, _, _]), (1, [_]), (2, [_])]) (rs := [_, _, _, _, _, .raw (.slice none 0 0)]) pl125 rfl rfl rfl)<|zOn 8 rfl<|yj (cs := _) rfl rfl rfl rfl<|fun i37 => z6<|zTk 9 rfl (zAp rfl)<|zDn ?_
   exact ⟨(i37, i35), zR2, zR1, zLe, trivial⟩
  ·refine AOps.makeB (m := f.vars.length) underlying111 type4 rfl rfl rfl rfl rfl (by simp) (by simp) (by show (1 : Int) * _ ≤ _; omega) (by omega)<|fun i35 => z6<|zOn 2 rfl<|zb (Makers_spec f hf hL ht) rfl<|z6<|zTk 7 rfl (zx (cps := [(0, [_, _, _]), (1, [_]), (2, [_])]) (rs := [_, _, _, _, _, .raw (.slice none 0 0)]) pl125 rfl rfl rfl)<|zOn 8 rfl<|yj (cs := _) rfl rfl rfl rfl<|fun i37 => z6<|zTk 9 rfl (zAp rfl)<|zDn ?_
   exact ⟨(i37, i35), zR2, zR1, zLe, trivial⟩
 ·rintro ⟨iv, ck⟩ _
  refine zSr<|z2 (zh isAgg26 sizeOf26 rfl rfl)<|y5 rfl (zp (.r (.r (.rest _)))) (checks_spec f hf) ?_
  rintro r39 O39 ⟨⟨mb, es⟩, rfl, rfl, hes⟩
  refine z2 (q3 (v := mref _) rfl)<|z6<|za<|zSr<|z2 (zFF underlying26 rfl sizeOf24 rfl rfl)<|z2 (zLf isAgg24 rfl)<|z2 (zz underlying24 rfl)<|z2 (zMi rfl)<|z6<|yd (ze (zj .t2))<|yd (ze (zj .t2))<|zi<|y6 (γ := Nat × List Bool) [1, 5, 7, 8, 41, 42] (fun g => [(43, .int .i64 g.1)]) (fun g => [(iv, .cells 125 (encF f ++ [.fro 2 ((makersT f).map eP.row), .own ck f.vars.length, .raw (.slice none 0 0)])), (ck, .grow 1 4 (cB g.2)), (0, mfroO eP mb es)]) (fun g => g.1 ≤ f.blocks.length ∧ g.2.length = f.vars.length ∧ ∀ v : Nat, v < f.vars.length → (gb g.2 v = true ↔ Done f g.1 0 v)) (fun g => f.blocks.length - g.1) (0, List.replicate f.vars.length false) zR1 zLe (⟨qk _, by simp, fun v hv => by rw [gb_nat, List.getElem?_replicate, if_pos hv]; simpa using Done.zero f v⟩) ?_
  rintro ⟨i, L⟩ ⟨hi, hLl, hLd⟩
  try dsimp only at *
  refine zSr<|z2 (y7 rfl rfl)<|z6<|za<|zl rfl (fun ci=>?_) (fun ci=>?_)
  ·have hi2 : i < f.blocks.length := by simp at ci; omega
   obtain ⟨b, hbi⟩ : ∃ b, f.blocks[i] = b := ⟨_, rfl⟩
   have hget : f.blocks[i]? = some b := by rw [qh hi2, hbi]
   have hmem : b ∈ f.blocks := hbi ▸ ql hi2
   obtain ⟨hb0, hb1, hb2, hb3, hb4⟩ := hf.2.2.2.2 b hmem
   obtain ⟨hPh, hIn, hTm⟩ := hS.2.2.2.2.2 b hmem
   refine zf<|za<|zi<|zSr<|z2 (zMi rfl)<|z2 (zIM i underlying24 sizeOf66 rfl rfl rfl hget)<|z2 (zh isAgg66 sizeOf66 rfl rfl)<|zo (cs := [.str ⟨#[]⟩, .raw (.slice none 0 0), .raw (.slice none 0 0), .int .i64 0, .int .i64 0, .int .i64 0, .int .i64 0]) zeroValue66 rfl rfl<|fun i10 => z2 (zAi rfl)<|zc sizeOf66 rfl rfl rfl rfl rfl rfl .head rfl<|zg (ya (t := 10) rfl .head)<|z6<|zSr<|z2 (zFF underlying66 rfl sizeOf60 rfl rfl)<|z2 (zLf isAgg60 rfl)<|z2 (zz underlying60 rfl)<|z2 (zMi rfl)<|z6<|zi<|y6 (γ := Nat × List Bool) [1, 5, 7, 8, 9, 41, 42, 43, 49, 50] (fun g => [(51, .int .i64 g.1)]) (fun g => [(iv, .cells 125 (encF f ++ [.fro 2 ((makersT f).map eP.row), .own ck f.vars.length, .raw (.slice none 0 0)])), (ck, .grow 1 4 (cB g.2)), (0, mfroO eP mb es)]) (fun g => g.1 ≤ b.insts.length ∧ g.2.length = f.vars.length ∧ ∀ v : Nat, v < f.vars.length → (gb g.2 v = true ↔ Done f i g.1 v)) (fun g => b.insts.length - g.1) (0, L) zR1 zLe (⟨qk _, hLl, hLd⟩) ?_
   rintro ⟨j, L⟩ ⟨hj, hLl, hLd⟩
   try dsimp only at *
   refine zSr<|z2 (y7 rfl rfl)<|z6<|za<|zl rfl (fun cj=>?_) (fun cj=>?_)
   ·have hj2 : j < b.insts.length := by simp at cj; omega
    obtain ⟨z, hz⟩ : ∃ z, b.insts[j] = z := ⟨_, rfl⟩
    have hzg : b.insts[j]? = some z := by rw [qh hj2, hz]
    have hzm : z ∈ b.insts := hz ▸ ql hj2
    have hI := instP_F (hIn z hzm)
    have hzl := hb4 z hzm
    have hstep := fun v : Int => Done.step (f := f) hget hzg v
    have hmq := hes (matchQ z.op)
    obtain ⟨ps, hps⟩ : ∃ ps, mg (matchQ z.op) es = ps := ⟨_, rfl⟩
    have hpl : ps.length ≤ 2000000 := by
     have := plTo_len (f := f) (q := matchQ z.op) (fun b hb => (hf.2.2.2.2 b hb).2.2.1) f.blocks.length (Nat.le_refl _)
     rw [← hps, hmq]; omega
    have hcx : chkX f z i j = true ↔ ∃ m ∈ ps, hitB f z i j m = true := by rw [chkX_iff, ← hps, hmq]
    have hpm : ∀ m ∈ ps, ∃ (i' k' : Nat) (b' : PBlock) (c : PInst), f.blocks[i']? = some b' ∧ b'.insts[k']? = some c ∧ m = ((i' : Int), (k' : Int)) ∧ 0 ≤ z.dst ∧ z.dst.toNat < f.vars.length := fun m hm => by
     rw [← hps, hmq] at hm
     obtain ⟨hq, i', k', b', c, g1, g2, g3, g4⟩ := mem_plTo.1 hm
     have hso : z.op = 2 ∨ z.op = 3 ∨ z.op = 4 := Classical.byContradiction fun hno => by
      unfold matchQ at hq; rw [if_neg hno] at hq; unfold isChk at hq; omega
     rcases hI.dst with ⟨d1, _⟩ | ⟨_, _, d3⟩
     ·rw [makesB_sum hso] at d1; cases d1
     ·have := hasV_rng d3
      exact ⟨i', k', b', c, g1, g2, g4, this.1, by omega⟩
    refine zf<|za<|zi<|zSr<|z2 (zMi rfl)<|z2 (zIM j underlying60 sizeOf33 rfl rfl rfl hzg)<|z2 (zh isAgg33 sizeOf33 rfl rfl)<|zo (cs := [.int .i64 0, .int .i64 0, .raw (.slice none 0 0), .int .i64 0]) zeroValue33 rfl rfl<|fun i12 => z2 (zAi rfl)<|zc sizeOf33 rfl rfl rfl rfl rfl rfl .head rfl<|zg (ya (t := 12) rfl .head)<|z6<|zSr<|z2 (yt (v := mref _) rfl)<|z2 (zFF underlying33 rfl sizeOf31 rfl rfl)<|z2 (zLi isAgg31 rfl)<|zb (matching_spec z.op) rfl<|z2 (Gv.lookupF underlying178 underlying31 zeroValue102 rfl rfl ⟨_, .t2⟩)<|z2 (zz underlying102 rfl)<|z2 (zMi rfl)<|z6 ?_
    rw [hps]
    refine zi<|y6 (γ := Nat × List Bool) [1, 5, 7, 8, 9, 11, 12, 41, 42, 43, 49, 50, 51, 60, 61] (fun g => [(62, .int .i64 g.1)]) (fun g => [(iv, .cells 125 (encF f ++ [.fro 2 ((makersT f).map eP.row), .own ck f.vars.length, .raw (.slice none 0 0)])), (ck, .grow 1 4 (cB g.2)), (0, mfroO eP mb es)]) (fun g => g.1 ≤ ps.length ∧ g.2.length = f.vars.length ∧ ∀ v : Nat, v < f.vars.length → (gb g.2 v = true ↔ Done f i j v ∨ ((v : Int) = z.dst ∧ ∃ m ∈ ps.take g.1, hitB f z i j m = true))) (fun g => ps.length - g.1) (0, L) zR1 zLe (⟨qk _, hLl, fun v hv => by rw [hLd v hv]; simp⟩) ?_
    rintro ⟨q, L⟩ ⟨hq, hLl, hLd⟩
    try dsimp only at *
    refine zSr<|z2 (y7 rfl rfl)<|z6<|za<|zl rfl (fun cq=>?_) (fun cq=>?_)
    ·have hq2 : q < ps.length := by simp at cq; omega
     obtain ⟨m, hm⟩ : ∃ m, ps[q] = m := ⟨_, rfl⟩
     obtain ⟨i', k', b', c, g1, g2, rfl, hz0, hz1⟩ := hpm m (hm ▸ ql hq2)
     have hcl := (hf.2.2.2.2 b' (qr g1)).2.2.2.2 c (qr g2)
     have htk : ∀ P : Plc → Prop, (∃ m ∈ ps.take (q + 1), P m) ↔ (∃ m ∈ ps.take q, P m) ∨ P ((i' : Int), (k' : Int)) := fun P => by
      rw [qi hq2, hm]
      simp only [List.mem_append, List.mem_singleton]
      constructor
      ·rintro ⟨m, h | rfl, hp⟩
       ·exact .inl ⟨m, h, hp⟩
       ·exact .inr hp
      ·rintro (⟨m, h, hp⟩ | hp)
       ·exact ⟨m, .inl h, hp⟩
       ·exact ⟨_, .inr rfl, hp⟩
     have hhit : hitB f z i j ((i' : Int), (k' : Int)) = (decide (c.args = z.args) && aheadB f ((i' : Int), (k' : Int)) i j) := by unfold hitB; rw [instAt_nat g1 g2]; rfl
     refine zf<|za<|zi<|zSr<|z2 (zIM q underlying102 sizeOf109 rfl rfl rfl (by rw [qh hq2, hm]))<|z2 (zh isAgg109 sizeOf109 rfl rfl)<|zo (cs := [.int .i64 0, .int .i64 0]) zeroValue109 rfl rfl<|fun i14 => zc sizeOf109 rfl rfl rfl rfl rfl rfl .head rfl<|zg (ya (t := 14) rfl .head)<|z6<|za<|zt (fun j => false) (by kernel_rfl) rfl (zp (.rest _))<|zTk 0 rfl (zFF underlying26 rfl sizeOf24 rfl rfl)<|zTk 1 rfl (zLf isAgg24 rfl)<|zTk 2 rfl (zFF underlying109 rfl sizeOf3 rfl rfl)<|zTk 3 rfl (zLi isAgg3 rfl)<|zTk 4 rfl (zIM (i') underlying24 sizeOf66 rfl rfl rfl g1)<|zTk 5 rfl (zFF underlying66 rfl sizeOf60 rfl rfl)<|zTk 6 rfl (zLf isAgg60 rfl)<|zTk 7 rfl (zFF underlying109 rfl sizeOf3 rfl rfl)<|zTk 8 rfl (zLi isAgg3 rfl)<|zTk 9 rfl (zIM (k') underlying60 sizeOf33 rfl rfl rfl g2)<|zTk 10 rfl (zh isAgg33 sizeOf33 rfl rfl)<|zOn 11 rfl<|zo (cs := [.int .i64 0, .int .i64 0, .raw (.slice none 0 0), .int .i64 0]) zeroValue33 rfl rfl<|fun i15 => z6<|zOn 12 rfl<|zc sizeOf33 rfl rfl rfl rfl rfl rfl .head rfl<|z6<|zDn<|yd (ya (t := 15) rfl .head)<|za<|yb (γ := Bool) [1, 5, 7, 8, 9, 11, 12, 41, 42, 43, 49, 50, 51, 60, 61, 62] (fun u => [(88, .bool u)]) (fun u => [(iv, .cells 125 (encF f ++ [.fro 2 ((makersT f).map eP.row), .own ck f.vars.length, .raw (.slice none 0 0)])), (ck, .grow 1 4 (cB L)), (0, mfroO eP mb es)]) (fun u => u = hitB f z i j ((i' : Int), (k' : Int))) ?_ (fun _ _ h => h) ?_
     ·refine zRg<|z2 (zFF underlying33 rfl sizeOf23 rfl rfl)<|z2 (zLf isAgg23 rfl)<|z2 (zFF underlying33 rfl sizeOf23 rfl rfl)<|z2 (zLf isAgg23 rfl)<|zb (equalI_spec c.args z.args (by unfold okL; omega)) rfl<|z2 (zMb rfl)<|zr (s := 82) rfl (fun c1=>?_) (fun c1=>?_)
      ·refine z8 rfl rfl c1<|z2 (zMg rfl)<|z8 rfl rfl c1<|z2 (zh isAgg109 sizeOf109 rfl rfl)<|z8 rfl rfl c1<|z2 (zMi rfl)<|z8 rfl rfl c1<|z2 (zMi rfl)<|z8 rfl rfl c1<|zb (ahead_spec f hE hn ((i' : Int), (k' : Int)) i j (froN eI (kidsR f)) .any) rfl<|z2 (zPt rfl c1 rfl)<|z6 ?_
       exact ⟨_, zR16, zR1, zLe, by rw [hhit, show decide (c.args = z.args) = true from c1]; rfl⟩
      ·refine z7 rfl rfl c1<|z7 rfl rfl c1<|z7 rfl rfl c1<|z7 rfl rfl c1<|z7 rfl rfl c1<|z2 (zPf rfl c1 rfl)<|z6 ?_
       exact ⟨_, zR16, zR1, zLe, by rw [hhit, show decide (c.args = z.args) = false from c1]; rfl⟩
     ·rintro u hu
      subst hu
      refine zy rfl (fun ch=>?_) (fun ch=>?_)
      ·refine zt (fun j => Nat.beq j 7) (by kernel_rfl) rfl (zp (.r (.r (.rest _))))<|zTk 0 rfl (zMp rfl)<|zTk 1 rfl (ym rfl)<|zTk 2 rfl (zq underlying125 rfl sizeOf111 (by decide) rfl rfl)<|zTk 3 rfl (zu (c := .own _ _) isAgg111 rfl ⟨_, .head⟩ rfl)<|zTk 4 rfl (zFF underlying33 rfl sizeOf3 rfl rfl)<|zTk 5 rfl (zLi isAgg3 rfl)<|zTk 6 rfl (yw (j := z.dst.toNat) underlying111 sizeOf4 rfl rfl (by omega) ⟨_, .t1⟩ (by rw [cB_len]; exact hLl) hz1)<|yf<|yl (i := 7) rfl (by kernel_rfl) (by kernel_rfl)<|AOps.storeB (j := z.dst.toNat) sizeOf4 rfl rfl .t1 (by omega)<|z6<|yh (by kernel_rfl)<|zRg<|z2 (zAd rfl rfl)<|z2 (zMi rfl)<|z6 ?_
       exact ⟨(q + 1, L.set z.dst.toNat true), zR15, zR1, zLe, ⟨hq2, by rw [List.length_set]; exact hLl, fun v hv => by rw [gb_set2 (by omega), hLd v hv, htk, ch]; constructor; (rintro (h | h | h); exact .inr ⟨by omega, .inr rfl⟩; exact .inl h; exact .inr ⟨h.1, .inl h.2⟩); (rintro (h | ⟨h1, h2⟩); exact .inr (.inl h); exact .inl (by omega))⟩, by dsimp only; omega⟩
      ·refine zf<|zRg<|z2 (zAd rfl rfl)<|z2 (zMi rfl)<|z6 ?_
       exact ⟨(q + 1, L), zR15, zR1, zLe, ⟨hq2, hLl, fun v hv => by rw [hLd v hv, htk]; simp [show hitB f z i j ((i' : Int), (k' : Int)) = false from ch]⟩, by dsimp only; omega⟩
    ·have hqn : q = ps.length := by simp at cq; omega
     subst hqn
     refine y3<|zRg<|z2 (zAd rfl rfl)<|z2 (zMi rfl)<|z6 ?_
     exact ⟨(j + 1, L), zR10, zR1, zLe, ⟨hj2, hLl, fun v hv => by rw [hLd v hv, qm, hstep, hcx]⟩, by dsimp only; omega⟩
   ·have hjn : j = b.insts.length := by simp at cj; omega
    subst hjn
    refine y3<|zRg<|z2 (zAd rfl rfl)<|z2 (zMi rfl)<|z6 ?_
    exact ⟨(i + 1, L), zR6, zR1, zLe, ⟨hi2, hLl, fun v hv => by rw [hLd v hv, Done.next hget]⟩, by dsimp only; omega⟩
  ·have hin : i = f.blocks.length := by simp at ci; omega
   subst hin
   have hLe := chkL_eq honce hLl hLd
   subst hLe
   refine y3<|yd (GStep.knowBC (off := 4) .t1 .head rfl (chkL_len f))<|zSr<|z2 (zMp rfl)<|z2 (zAp rfl)<|z2 (zAi rfl)<|z6<|zd<|qa (x := .po _ _) (y := .int _ _) rfl rfl ?_
   exact ⟨iv, rfl, ⟨_, .keep (.drop (.refl _)), rfl⟩, trivial⟩
end Go.Proofs.YtjnpcfpecilejaaGreatDoor
namespace Go.Proofs.YtjnpcfpecilejaaGreatDoor
open Go.Proofs.Tryz
open Go.Proofs Go.Lib Go.Shelf Go.RowKit
variable {E : World}
set_option maxRecDepth 20000
theorem takes_10 : takesL 10 = [1] := by decide
theorem takes_11 : takesL 11 = [1, 1] := by decide
theorem typed_bool {f : PFunc} (h : typedB f = true) : ∀ b ∈ f.blocks, ∀ x ∈ b.insts, x.op = 10 ∨ x.op = 11 → ∀ v ∈ x.args, tyV f v = 1 := by
 intro b hb x hx hop v hv
 unfold typedB at h
 rw [qw] at h
 have h1 := List.all_eq_true.1 h.2 b hb
 unfold blkT at h1
 simp only [qw] at h1
 have h2 := List.all_eq_true.1 h1.1.2 x hx
 unfold instT at h2
 rw [if_neg (by omega)] at h2
 rw [qw, qy] at h2
 have h3 : kindV f v ∈ takesL x.op := by rw [← h2.1]; exact List.mem_map_of_mem hv
 show kindV f v = 1
 rcases hop with e | e <;> rw [e] at h3
 ·rw [takes_10] at h3; simpa using h3
 ·rw [takes_11] at h3; simpa using h3
theorem sing_once {f : PFunc} (h : singB f = true) : OnceP f := (onceB_iff f).1 (by unfold singB at h; simp only [qw] at h; exact h.2.2.1)
theorem ruleF_of {f : PFunc} (hf : small f) (h : (typedB f && singB f) = true) : RuleF f := ⟨hf, typedB_shaped (and3 h).1, sing_once (and3 h).2, typed_bool (and3 h).1⟩
theorem rule_chk {f : PFunc} (hS : ShapedP f) {l : List Rng} {v : Nat} (hv : v < f.vars.length) (hm : 0 ≤ (makerT f v).1) (ho : OnceP f) : ruleR f (gb (chkL f)) l v = ruleR f (chkV f) l v := by
 obtain ⟨i, b, h1, ⟨p, h2, h3, h4⟩ | ⟨k, x, h2, h3, h4⟩⟩ := maker_cases hm
 ·rw [rule_phi (ho v hv).1 h1 h2 h3 h4, rule_phi (ho v hv).1 h1 h2 h3 h4]
 ·rw [rule_inst h1 h2 h4, rule_inst h1 h2 h4]
  unfold instR
  rw [h3, chkL_gb (by omega) (by omega)]
theorem notdecT {p : Prop} [Decidable p] (h : (!decide p) = true) : ¬ p := fun hp => by rw [qu hp] at h; cases h
theorem notdecF {p : Prop} [Decidable p] (h : (!decide p) = false) : p := Classical.byContradiction fun hp => by rw [qv hp] at h; cases h
def firstP (f : PFunc) (v : Int) : Rng := if typedB f = true ∧ 0 ≤ v ∧ v < f.vars.length then firstR f v else noR
theorem vFirst_spec (f : PFunc) (hf : small f) (hL : Letters E) (v : Int) : AFun prog E 36 [.agg (encF f), .int .i64 v] (.agg (encZ (firstP f v))) := by
 have hvn := hf.1
 have hp := hf.2.1
 have hT := Typed_spec (E := E) f hf hL
 refine zn func36 rfl (by decide) rfl<|zSr<|y1 (cs := _) rfl rfl rfl<|zo (cs := [.int .i64 0, .int .i64 0]) zeroValue74 rfl rfl<|fun i4 => z6<|za<|zi<|za<|yb (γ := Bool) [1, 2, 4] (fun u => [(5, .bool u)]) (fun u => [(i4, .cells 74 [.int .i64 0, .int .i64 0])]) (fun u => u = !decide (typedB f = true ∧ 0 ≤ v ∧ v < f.vars.length)) ?_ (fun _ _ h => h) ?_
 ·refine zRg<|z2 (zh isAgg26 sizeOf26 rfl rfl)<|zb (hT) rfl<|z2 (yk rfl rfl)<|z2 (zMb rfl)<|zr (s := 9) rfl (fun c1=>?_) (fun c1=>?_)
  ·refine z7 rfl rfl c1<|z7 rfl rfl c1<|z2 (zPt rfl c1 rfl)<|z2 (zMb rfl)<|z7 rfl rfl rfl<|z7 rfl rfl rfl<|z7 rfl rfl rfl<|z7 rfl rfl rfl<|z7 rfl rfl rfl<|z2 (zPt rfl rfl rfl)<|z2 (zAb rfl)<|z6 ?_
   exact ⟨_, zR3, zR1, zLe, by have h : typedB f = false := (by cases ht : typedB f; rfl; rw [ht] at c1; simp at c1); simp [h]⟩
  ·have h1 : typedB f = true := by cases ht : typedB f; rw [ht] at c1; simp at c1; rfl
   refine z8 rfl rfl c1<|z2 (zMi rfl)<|z8 rfl rfl c1<|z2 (y7 rfl rfl)<|z2 (zPf rfl c1 rfl)<|z2 (zMb rfl)<|zr (s := 13) rfl (fun c2=>?_) (fun c2=>?_)
   ·refine z7 rfl rfl c2<|z7 rfl rfl c2<|z7 rfl rfl c2<|z7 rfl rfl c2<|z7 rfl rfl c2<|z2 (zPt rfl c2 rfl)<|z2 (zAb rfl)<|z6 ?_
    exact ⟨_, zR3, zR1, zLe, by have h : v < 0 := (by simpa using c2); simp; omega⟩
   ·refine z8 rfl rfl c2<|z2 (zMi rfl)<|z8 rfl rfl c2<|z2 (zFF underlying26 rfl sizeOf22 rfl rfl)<|z8 rfl rfl c2<|z2 (zLf isAgg22 rfl)<|z8 rfl rfl c2<|z2 (zz underlying22 rfl)<|z8 rfl rfl c2<|z2 (q0 rfl rfl)<|z2 (zPf rfl c2 rfl)<|z2 (zAb rfl)<|z6 ?_
    exact ⟨_, zR3, zR1, zLe, by have h : ¬ v < 0 := (by simpa using c2); rw [qq]; simp [h1]; omega⟩
 ·rintro u hu
  subst hu
  refine zy rfl (fun c=>?_) (fun c=>?_)
  ·refine zSr<|zb (iNone) rfl<|zc sizeOf74 rfl rfl rfl rfl rfl rfl .head rfl<|z6<|zd<|y8 rfl ⟨_, .head⟩ isAgg74 sizeOf74 rfl ?_
   rw [firstP, if_neg (notdecT c)]; try rfl
  ·have hc : typedB f = true ∧ 0 ≤ v ∧ v < f.vars.length := notdecF c
   rw [firstP, if_pos hc, firstR]
   have hvl : v.toNat < f.vars.length := by omega
   have hty : tyV f v = f.vars[v.toNat].ty := by unfold tyV; rw [qh hvl]; rfl
   refine zSr<|z2 (zMi rfl)<|z2 (zFF underlying26 rfl sizeOf23 rfl rfl)<|z2 (zLf isAgg23 rfl)<|z2 (zz underlying23 rfl)<|z2 (y7 rfl rfl)<|z2 (zAb rfl)<|z6<|zl rfl (fun c2=>?_) (fun c2=>?_)
   ·refine zSr<|z2 (zFF underlying26 rfl sizeOf22 rfl rfl)<|z2 (zLf isAgg22 rfl)<|z2 (zMi rfl)<|z2 (zIM v.toNat underlying22 sizeOf56 rfl rfl (by omega) (qh hvl))<|z2 (zFF underlying56 rfl sizeOf54 rfl rfl)<|z2 (zLi isAgg54 rfl)<|zb (iType _) rfl<|zc sizeOf74 rfl rfl rfl rfl rfl rfl .head rfl<|z6<|zd<|y8 rfl ⟨_, .head⟩ isAgg74 sizeOf74 rfl ?_
    rw [if_pos c2, hty]; try rfl
   ·refine zf<|zSr<|zb (iOf _) rfl<|zc sizeOf74 rfl rfl rfl rfl rfl rfl .head rfl<|z6<|zd<|y8 rfl ⟨_, .head⟩ isAgg74 sizeOf74 rfl ?_
    rw [if_neg c2]; try rfl
end Go.Proofs.YtjnpcfpecilejaaGreatDoor
namespace Go.Proofs.YtjnpcfpecilejaaGreatDoor
open Go.Proofs.Tryz
def rF (f : PFunc) : List Rng → Int → Rng := ruleR f (chkV f)
def madeV (f : PFunc) : List Int := (madeL f).map (·.1)
def widF (f : PFunc) (n : Nat) (v : Int) : Option Rng := if 4 ≤ n ∧ (makerT f v).2 = -1 then some (rType (tyV f v)) else none
def nextR (f : PFunc) (l : List Rng) (v : Int) (phi : Bool) (how : Int) : Rng :=
 if how = 2 then rMeet (lv l v) (rF f l v) else if how = 1 ∧ phi = true then widQ (rType (tyV f v)) (lv l v) (rF f l v) else rJoin (lv l v) (rF f l v)
def putS (f : PFunc) (how : Int) (s : List Rng × Bool) (q : Int × Bool) : List Rng × Bool := (s.1.set q.1.toNat (nextR f s.1 q.1 q.2 how), !decide (nextR f s.1 q.1 q.2 how = lv s.1 q.1) || s.2)
def rndS (f : PFunc) (how : Int) (qs : List (Int × Bool)) (s : List Rng × Bool) : List Rng × Bool := qs.foldl (putS f how) s
theorem rndS_snoc (f : PFunc) (how : Int) (qs : List (Int × Bool)) (q : Int × Bool) (s : List Rng × Bool) : rndS f how (qs ++ [q]) s = putS f how (rndS f how qs s) q := by unfold rndS; rw [List.foldl_append]; rfl
def MadeF (f : PFunc) : Prop := ∀ q ∈ madeL f, 0 ≤ q.1 ∧ q.1 < f.vars.length ∧ 0 ≤ (makerT f q.1).1 ∧ (q.2 = true ↔ (makerT f q.1).2 = -1)
theorem made_rules {f : PFunc} (hf : RuleOk f) (hm : MadeF f) : Rules f.vars.length (rF f) (madeV f) := ruleR_rules hf _ fun v hv => by
 obtain ⟨q, hq, rfl⟩ := List.mem_map.1 hv
 have := hm q hq
 exact ⟨this.1, this.2.1⟩
theorem wid_ok (f : PFunc) (i : Nat) (v : Int) (t : Rng) (h : widF f i v = some t) : ok64 t := by
 unfold widF at h
 split at h
 ·cases h; exact rType_ok _
 ·cases h
def hows (how : Int) (n : Nat) : Prop := how = if 4 ≤ n then 1 else 0
theorem next_grow {f : PFunc} (hm : MadeF f) {how : Int} {n : Nat} (hh : hows how n) (l : List Rng) {q : Int × Bool} (hq : q ∈ madeL f) : nextR f l q.1 q.2 how = growR (rF f) (widF f n) l q.1 := by
 obtain ⟨_, _, _, h⟩ := hm q hq
 unfold nextR growR widF
 unfold hows at hh
 subst hh
 by_cases h4 : 4 ≤ n
 ·rw [if_pos h4, if_neg (by decide)]
  by_cases c : (makerT f q.1).2 = -1
  ·rw [if_pos ⟨rfl, h.2 c⟩, if_pos ⟨h4, c⟩]
  ·rw [if_neg (fun e => c (h.1 e.2)), if_neg (fun e => c e.2)]
 ·rw [if_neg h4, if_neg (by decide), if_neg (fun e => by simp at e), if_neg (fun e => h4 e.1)]
theorem rnd_grow {f : PFunc} (hR : Rules f.vars.length (rF f) (madeV f)) (hm : MadeF f) {how : Int} {n : Nat} (hh : hows how n) : ∀ (qs : List (Int × Bool)) (l : List Rng) (c : Bool), (∀ q ∈ qs, q ∈ madeL f) → GOkR f.vars.length l →
  GOkR f.vars.length (rndS f how qs (l, c)).1 ∧ (rndS f how qs (l, c)).1 = growA (rF f) (widF f n) (qs.map (·.1)) l ∧ ((rndS f how qs (l, c)).2 = true ↔ c = true ∨ growA (rF f) (widF f n) (qs.map (·.1)) l ≠ l)
 | [], l, c, _, hl => ⟨hl, rfl, by simp [rndS, growA]⟩
 | q :: qs, l, c, hs, hl => by
  have hq := hs q (.head _)
  have hqv : q.1 ∈ madeV f := List.mem_map.2 ⟨q, hq, rfl⟩
  obtain ⟨h1, h2, h3⟩ := growS_ok hR (wid_ok f n) hl hqv
  have hn := next_grow hm hh l hq
  obtain ⟨g1, g2, g3⟩ := rnd_grow hR hm hh qs (growS (rF f) (widF f n) l q.1) (!decide (growR (rF f) (widF f n) l q.1 = lv l q.1) || c) (fun x hx => hs x (.tail _ hx)) h1
  have e : rndS f how (q :: qs) (l, c) = rndS f how qs (growS (rF f) (widF f n) l q.1, !decide (growR (rF f) (widF f n) l q.1 = lv l q.1) || c) := by
   show rndS f how qs (putS f how (l, c) q) = _
   unfold putS growS
   dsimp only
   rw [hn]
  have e2 : growA (rF f) (widF f n) ((q :: qs).map (·.1)) l = growA (rF f) (widF f n) (qs.map (·.1)) (growS (rF f) (widF f n) l q.1) := rfl
  rw [e, e2]
  refine ⟨g1, g2, ?_⟩
  rw [g3]
  obtain ⟨k1, k2, k3⟩ := growA_ok hR (wid_ok f n) (qs.map (·.1)) (growS (rF f) (widF f n) l q.1) (fun x hx => by obtain ⟨y, hy, rfl⟩ := List.mem_map.1 hx; exact List.mem_map.2 ⟨y, hs y (.tail _ hy), rfl⟩) h1
  by_cases c0 : growR (rF f) (widF f n) l q.1 = lv l q.1
  ·have hr := hR.rng q.1 hqv
   have e3 := growS_same (rule := rF f) (wid := widF f n) (l := l) (v := q.1) hr.1 (by rw [hl.ok.1]; omega) c0
   rw [e3, qu c0]
   simp
  ·have h4 := h2.resolve_left c0
   rw [qv c0]
   simp only [Bool.not_false, Bool.true_or, true_or, true_iff]
   refine .inr fun h=>?_
   rw [h] at k2
   omega
theorem rnd_meet {f : PFunc} (hR : Rules f.vars.length (rF f) (madeV f)) : ∀ (qs : List (Int × Bool)) (l : List Rng) (c : Bool), (∀ q ∈ qs, q ∈ madeL f) → okL64 f.vars.length l →
  okL64 f.vars.length (rndS f 2 qs (l, c)).1 ∧ (rndS f 2 qs (l, c)).1 = (qs.map (·.1)).foldl (narrow (rF f)) l
 | [], l, c, _, hl => ⟨hl, rfl⟩
 | q :: qs, l, c, hs, hl => by
  have hq := hs q (.head _)
  have hqv : q.1 ∈ madeV f := List.mem_map.2 ⟨q, hq, rfl⟩
  have h1 := narrow_ok hR hl hqv
  exact rnd_meet hR qs (narrow (rF f) l q.1) (!decide (nextR f l q.1 q.2 2 = lv l q.1) || c) (fun x hx => hs x (.tail _ hx)) h1
theorem rnd_ok {f : PFunc} (hR : Rules f.vars.length (rF f) (madeV f)) (how : Int) : ∀ (qs : List (Int × Bool)) (s : List Rng × Bool), (∀ q ∈ qs, q ∈ madeL f) → okL64 f.vars.length s.1 → okL64 f.vars.length (rndS f how qs s).1
 | [], s, _, hl => hl
 | q :: qs, s, hs, hl => by
  have hq := hs q (.head _)
  have hqv : q.1 ∈ madeV f := List.mem_map.2 ⟨q, hq, rfl⟩
  have hr := hR.rng q.1 hqv
  refine rnd_ok hR how qs _ (fun x hx => hs x (.tail _ hx)) ⟨by unfold putS; dsimp only; rw [List.length_set]; exact hl.1, fun u hu => ?_⟩
  unfold putS
  dsimp only
  rw [lv_set hr.1 (by rw [hl.1]; omega) _ hu]
  have h1 := hl.2 q.1 hr.1
  have h2 := hR.ok s.1 q.1 hl.1 hl.2 hqv
  split
  ·unfold nextR
   split
   ·exact rMeet_ok h1 h2
   ·split
    ·exact widQ_ok (rType_ok _) h1 h2
    ·exact rJoin_ok h1 h2
  ·exact hl.2 u hu
def rndF (f : PFunc) : Nat → List Rng
 | 0 => firstL f
 | i + 1 => growA (rF f) (widF f (i + 1)) (madeV f) (rndF f i)
structure Stops (f : PFunc) (K : Nat) : Prop where
 still : rndF f (K + 1) = rndF f K
 moves : ∀ i, i < K → rndF f (i + 1) ≠ rndF f i
def endF (f : PFunc) (K : Nat) : List Rng := (madeV f).foldl (narrow (rF f)) ((madeV f).foldl (narrow (rF f)) (rndF f K))
theorem firstR_okn (f : PFunc) (v : Int) : ok64 (firstR f v) ∧ nrm (firstR f v) := by
 unfold firstR
 split
 ·refine ⟨rType_ok _, ?_⟩
  unfold rType nrm
  (repeat' split) <;> exact fun h => by revert h; decide
 ·exact ⟨⟨by decide, by decide⟩, fun h => absurd h (by decide)⟩
theorem firstL_lv {f : PFunc} {u : Int} (hu : 0 ≤ u) : lv (firstL f) u = if u < f.vars.length then first0R f u else noR := by
 unfold lv firstL
 rw [qp]
 by_cases c : u < f.vars.length
 ·rw [if_pos c, List.getElem?_range (by omega)]
  simp only [Option.map_some, Option.getD_some]
  rw [Int.toNat_of_nonneg hu]
 ·rw [if_neg c, List.getElem?_eq_none (by simp; omega)]; rfl
theorem firstL_g (f : PFunc) : GOkR f.vars.length (firstL f) := by
 have key : ∀ u : Int, 0 ≤ u → ok64 (lv (firstL f) u) ∧ nrm (lv (firstL f) u) := fun u hu => by
  rw [firstL_lv hu]
  have h0 : ok64 noR ∧ nrm noR := ⟨noR_ok, fun _ => rfl⟩
  split
  ·unfold first0R
   split
   ·exact firstR_okn f u
   ·exact h0
  ·exact h0
 exact ⟨⟨firstL_len f, fun u hu => (key u hu).1⟩, fun u hu => (key u hu).2⟩
theorem rndF_g {f : PFunc} (hR : Rules f.vars.length (rF f) (madeV f)) : ∀ i, GOkR f.vars.length (rndF f i)
 | 0 => firstL_g f
 | i + 1 => (growA_ok hR (wid_ok f (i + 1)) (madeV f) _ (fun _ h => h) (rndF_g hR i)).1
theorem least_of {p : Nat → Prop} : ∀ (n : Nat), p n → ∃ k, k ≤ n ∧ p k ∧ ∀ i, i < k → ¬ p i
 | n, h => by
  by_cases c : ∃ m, m < n ∧ p m
  ·obtain ⟨m, hm, hp⟩ := c
   obtain ⟨k, h1, h2, h3⟩ := least_of m hp
   exact ⟨k, by omega, h2, h3⟩
  ·exact ⟨n, Nat.le_refl _, h, fun i hi hp => c ⟨i, hi, hp⟩⟩
theorem stops_ex {f : PFunc} (hR : Rules f.vars.length (rF f) (madeV f)) : ∃ K, Stops f K := by
 have key : ∀ i, (∃ j, j < i ∧ rndF f (j + 1) = rndF f j) ∨ i ≤ rtot (rndF f i) := fun i => by
  induction i with
  | zero => exact .inr (qk _)
  | succ i ih =>
   rcases ih with ⟨j, hj, h⟩ | h
   ·exact .inl ⟨j, by omega, h⟩
   ·rcases (growA_ok hR (wid_ok f (i + 1)) (madeV f) _ (fun _ h => h) (rndF_g hR i)).2.2 with h2 | h2
    ·exact .inl ⟨i, by omega, h2⟩
    ·right
     show _ ≤ rtot (growA (rF f) (widF f (i + 1)) (madeV f) (rndF f i))
     omega
 rcases key (f.vars.length * 18446744073709551616 + 1) with ⟨j, _, h⟩ | h
 ·obtain ⟨k, _, h1, h2⟩ := least_of (p := fun j => rndF f (j + 1) = rndF f j) j h
  exact ⟨k, h1, h2⟩
 ·have := rtot_le (rndF_g hR (f.vars.length * 18446744073709551616 + 1)).ok
  omega
theorem Stops.eq {f : PFunc} {K K' : Nat} (h : Stops f K) (h' : Stops f K') : K = K' := by
 rcases Nat.lt_trichotomy K K' with c | c | c
 ·exact absurd h.still (h'.moves K c)
 ·exact c
 ·exact absurd h'.still (h.moves K' c)
theorem endF_post {f : PFunc} (hR : Rules f.vars.length (rF f) (madeV f)) {K : Nat} (h : Stops f K) : okL64 f.vars.length (endF f K) ∧ PostR (rF f) (madeV f) (endF f K) := by
 have h1 := rndF_g hR K
 have h2 := grow_post (growA_still hR (wid_ok f (K + 1)) (madeV f) _ (fun _ h => h) h1 h.still)
 obtain ⟨g1, g2⟩ := narrow_all hR (madeV f) _ (fun _ h => h) h1.ok h2
 exact narrow_all hR (madeV f) _ (fun _ h => h) g1 g2
end Go.Proofs.YtjnpcfpecilejaaGreatDoor
namespace Go.Proofs.YtjnpcfpecilejaaGreatDoor
open Go.Proofs.Tryz
open Go.Proofs
theorem knowL {I : G} {F : List (Nat × Obj)} {E w : World} {i k m : Nat} {T : TypeId} {rows : List (List AV)} (hk : ∀ r ∈ rows, r.length = k) (hk0 : 0 < k) (hm : rows.length = m) (h : SLA I [(i, .grow k T rows.flatten)] F E w) :
  ∃ J L, I.le J ∧ RepOs I [(i, .grow k T rows.flatten)] L ∧ SL I.k (L ++ F) E w ∧ (∀ y ∈ L, J.k y.1 = some y.2) ∧ SLA J [] F E w ∧ ∀ v, RepV I (.own i m) v → RepV J (.fro k rows) v := by
 obtain ⟨ht, L, hL, hS⟩ := h
 have hL0 := hL
 obtain ⟨A, B, hp, ⟨b, c, n, vs, e1, hvs, hvc, hown⟩, hB⟩ := hL
 have hB : B = [] := hB
 simp only at e1
 rw [hB, List.append_nil] at hp
 subst hp
 have hflat : rows.flatten.length = rows.length * k := by
  clear hvs hm hL0
  induction rows with
  | nil => simp
  | cons r rows ih => simp only [List.flatten_cons, qn, List.length_cons, ih (fun r h => hk r (by simp [h])), hk r (by simp), Nat.add_mul]; omega
 have hnm : n = m := by
  have h5 := hown.1
  have h6 := hvs.length
  have : n * k = m * k := by rw [← hm]; omega
  exact Nat.eq_of_mul_eq_mul_right hk0 this
 subst hnm
 obtain ⟨h5, h6, h7⟩ := hown
 rcases h7 with ⟨ea, rfl, rfl⟩ | ⟨b', junk, ea, rfl, hj⟩
 ·refine ⟨I, [], .refl _, hL0, hS, fun y hy => (by cases hy), ⟨ht, [], rfl, by simpa using hS⟩, ?_⟩
  rintro v ⟨b2, c2, e2, rfl⟩
  rw [e1] at e2
  simp only [Option.some.injEq, Prod.mk.injEq] at e2
  obtain ⟨rfl, rfl⟩ := e2
  have h0 : rows = [] := qt (by omega)
  subst h0
  exact ⟨adr b, n, 0, rfl, hm.symm, h6, fun _ => rfl, trivial⟩
 ·cases b with
  | none => simp [adr] at ea
  | some b =>
   simp [adr] at ea
   subst ea
   obtain ⟨hl, hS3⟩ := SL.freeze (by simpa using hS : SL I.k ((b, .cells (vs ++ junk).toArray T (0, 0)) :: F) E w)
   let J : G := ⟨I.k.put b (.cells (vs ++ junk).toArray T (0, 0)), I.h⟩
   have hle : I.le J := ⟨hl, fun _ _ h => h⟩
   have hb : J.k b = some (.cells (vs ++ junk).toArray T (0, 0)) := Ghost.put_same _ _ _
   refine ⟨J, _, hle, hL0, hS, fun y hy => (by rw [List.mem_singleton.1 hy]; exact hb), ⟨ht, [], rfl, by simpa using hS3⟩, ?_⟩
   rintro v ⟨b2, c2, e2, rfl⟩
   rw [e1] at e2
   simp only [Option.some.injEq, Prod.mk.injEq] at e2
   obtain ⟨rfl, rfl⟩ := e2
   refine ⟨adr (some b), n, c, rfl, hm.symm, h6, fun h => by simp [adr] at h, RepR.of_flat hb rows vs 0 hk (RepL.mono hle _ _ hvs) fun i u hu => ?_⟩
   rw [Nat.zero_mul, Nat.zero_add, List.getElem?_toArray, List.getElem?_append_left (List.getElem?_eq_some_iff.1 hu).1]
   exact hu
theorem ACall.lend {P : Program} {E : World} {f : FuncId} {ars ars' : List AV} {x : AV} {i m k : Nat} {T : TypeId} {rows : List (List AV)} (hk : ∀ r ∈ rows, r.length = k) (hk0 : 0 < k) (hm : rows.length = m)
  (has : ∀ I J : G, I.le J → (∀ v, RepV I (.own i m) v → RepV J (.fro k rows) v) → ∀ vs, RepL I ars vs → RepL J ars' vs) (hx : ∀ (I J : G) v, RepV J x v → RepV I x v)
  (h : AFun P E f ars' x) : ACall P E f ars [(i, .grow k T rows.flatten)] fun y O => y = x ∧ O = [(i, .grow k T rows.flatten)] := fun I F w vs h1 h2 => by
 obtain ⟨J, L, hle, hL, hS, hf, hJ, hv⟩ := knowL hk hk0 hm h2
 refine (h J F w vs (has I J hle hv vs h1) hJ).mono fun v w' ⟨J2, y, O', a, b, c, d⟩ => ?_
 have d : y = x := d
 subst d
 obtain ⟨_, L', _, hS'⟩ := c
 refine ⟨I, y, _, .refl _, hx I J2 v b, ⟨h2.1, L, hL, ?_⟩, rfl, rfl⟩
 refine ⟨hS'.os, hS'.output, hS'.tape, fun b o hb => hS'.pers b o (a.k b o (hle.k b o hb)), fun z hz => ?_, hS.nodup, hS.apart, hS.base, hS.flat, hS.oflat⟩
 rcases List.mem_append.1 hz with hz | hz
 ·exact hS'.pers _ _ (a.k _ _ (hf z hz))
 ·exact hS'.own z (List.mem_append_right _ hz)
theorem lC_flat (l : List Rng) : (l.map encZ).flatten = lC l := by
 unfold lC Enc.av; rw [List.flatMap_def]; rfl
theorem encZ_any {I J : G} {r : Rng} {v : Value} (h : RepV J (.agg (encZ r)) v) : RepV I (.agg (encZ r)) v := by
 obtain ⟨vs, rfl, a, _, rfl, h1, b, _, rfl, h2, h3⟩ := h
 exact ⟨_, rfl, a, _, rfl, h1, b, _, rfl, h2, h3⟩
end Go.Proofs.YtjnpcfpecilejaaGreatDoor
