/- The first check of a block, how it comes from another one, whether it was passed: the program's. Of programs that are little. -/
import Derived.Test.YtjnpcfpecilejaaGreatDoorGn
import Derived.Test.YtjnpcfpecilejaaGreatDoorGh
import Derived.Test.YtjnpcfpecilejaaGreatDoorGd
import Derived.Test.YtjnpcfpecilejaaGreatDoorGm
import Derived.Test.YtjnpcfpecilejaaGreatDoorGl
set_option linter.unusedVariables false
set_option linter.unusedSimpArgs false
set_option linter.unusedSectionVars false
namespace Go.Proofs.YtjnpcfpecilejaaGreatDoor
open Go.Proofs.Tryz
open Go.Proofs Go.Lib Go.Shelf Go.RowKit
set_option maxRecDepth 20000
variable {E : World}
theorem sum_take {α : Type} (g : α → Nat) : ∀ (l : List α) (k : Nat), ((l.take k).map g).sum ≤ (l.map g).sum
 | [], k => by simp
 | x :: l, 0 => by simp
 | x :: l, k + 1 => by
  have := sum_take g l k
  simp only [List.take_succ_cons, List.map_cons, List.sum_cons]; omega
theorem wP_take (l : List PPhi) (k : Nat) : wP (l.take k) ≤ wP l := sum_take _ l k
theorem wX_take (l : List PInst) (k : Nat) : wX (l.take k) ≤ wX l := sum_take _ l k
theorem little_le {f : PFunc} (h : little f) {k : Nat} (hk : k < f.blocks.length) : wV f.vars + wBs (f.blocks.take k) + wB f.blocks[k] ≤ 4000 := by
 have h1 := h.2.2.2.2.2 (fun e => by rw [e] at hk; exact absurd hk (Nat.not_lt_zero _))
 have h2 : wBs (f.blocks.take (k + 1)) ≤ wBs f.blocks := sum_take _ f.blocks (k + 1)
 rw [wBs_succ hk] at h2
 omega
set_option maxHeartbeats 8000000 in
theorem fewIff_spec (f : PFunc) (hf : wFunc f) : ACall prog E 12 [.agg (encF f)] [] (fun x _ => ∃ b : Bool, x = .bool b ∧ (b = true ↔ little f)) := by
 obtain ⟨hf1, hf2, hf3, hf4⟩ := hf
 have hl1 := hf1.lt
 have hl3 := hf3.lt
 refine zl func12 rfl (by decide) rfl<|zSr<|y4 (cs := _) rfl rfl rfl<|z2 (zAb rfl)<|z6<|za<|za<|yh (γ := Unit) [1] (fun u => [(27, .bool (few1 f))]) (fun u => []) (fun u => True) ?_ (fun _ _ h => h) ?_
 ·refine zRg<|z2 (zFF underlying26 rfl sizeOf22 rfl rfl)<|z2 (zLf isAgg22 rfl)<|z2 (zq underlying22 rfl)<|z2 (yt rfl rfl)<|z2 (zMb rfl)<|zn (s := 16) rfl (fun c1=>?_) (fun c1=>?_)
  ·refine z7 rfl rfl c1<|z7 rfl rfl c1<|z7 rfl rfl c1<|z7 rfl rfl c1<|z2 (zPt rfl c1 rfl)<|z2 (zMb rfl)<|z7 rfl rfl rfl<|z7 rfl rfl rfl<|z7 rfl rfl rfl<|z7 rfl rfl rfl<|z2 (zPt rfl rfl rfl)<|z6 ?_
   exact ⟨(), zR1, ⟨jb (by simp_all [few1] <;> grind), trivial⟩, zLe, trivial⟩
  ·refine z8 rfl rfl c1<|z2 (zFF underlying26 rfl sizeOf24 rfl rfl)<|z8 rfl rfl c1<|z2 (zLf isAgg24 rfl)<|z8 rfl rfl c1<|z2 (zq underlying24 rfl)<|z8 rfl rfl c1<|z2 (yt rfl rfl)<|z2 (zPf rfl c1 rfl)<|z2 (zMb rfl)<|zn (s := 22) rfl (fun c2=>?_) (fun c2=>?_)
   ·refine z7 rfl rfl c2<|z7 rfl rfl c2<|z7 rfl rfl c2<|z7 rfl rfl c2<|z2 (zPt rfl c2 rfl)<|z6 ?_
    exact ⟨(), zR1, ⟨jb (by simp_all [few1] <;> grind), trivial⟩, zLe, trivial⟩
   ·refine z8 rfl rfl c2<|z2 (zFF underlying26 rfl sizeOf23 rfl rfl)<|z8 rfl rfl c2<|z2 (zLf isAgg23 rfl)<|z8 rfl rfl c2<|z2 (zq underlying23 rfl)<|z8 rfl rfl c2<|z2 (yt rfl rfl)<|z2 (zPf rfl c2 rfl)<|z6 ?_
    exact ⟨(), zR1, ⟨jb (by simp_all [few1] <;> grind), trivial⟩, zLe, trivial⟩
 ·rintro _ _
  refine zr rfl (fun c1=>?_) (fun c1=>?_)
  ·refine zSr<|z2 (zAb rfl)<|z6<|zg<|zj (x := .bool _) rfl ?_
   exact ⟨_, rfl, fun h => (by cases h), fun hl => absurd hl (fun hl => by have h1 := hl.1; have h2 := hl.2.1; have h3 := hl.2.2.1; unfold few1 at c1; simp at c1; omega)⟩
  ·have hsz : f.vars.length ≤ 100 ∧ f.blocks.length ≤ 40 ∧ f.params.length ≤ 20 := by unfold few1 at c1; simp at c1; omega
   refine ze<|zSr<|z2 (zAi rfl)<|z6<|za<|zSr<|z2 (zFF underlying26 rfl sizeOf22 rfl rfl)<|z2 (zLf isAgg22 rfl)<|z2 (zq underlying22 rfl)<|z2 (zMi rfl)<|z6<|zd<|y1 (γ := Nat) [1, 29, 30] (fun k => [(31, .int .i64 k), (3, .int .i64 (wV (f.vars.take k)))]) (fun k => []) (fun k => k ≤ f.vars.length ∧ wV (f.vars.take k) ≤ 400 * k ∧ ∀ v ∈ f.vars.take k, v.name.size ≤ 400) (fun k => f.vars.length - k) 0 zR2 zLe (⟨qf _, Nat.le_refl _, by simp⟩) ?_
   rintro k ⟨hk, hw, hv⟩
   refine zSr<|z2 (y7 rfl rfl)<|z6<|za<|zt rfl (fun ck=>?_) (fun ck=>?_)
   ·have hk1 : k < f.vars.length := by omega
    have hs := wV_succ hk1
    refine ze<|za<|zd<|zSr<|z2 (yr underlying22 sizeOf56 rfl rfl rfl (qc (by omega)))<|z2 (zk isAgg56 sizeOf56 rfl rfl)<|zy (cs := [.str ⟨#[]⟩, .int .i64 0]) zeroValue56 rfl rfl<|fun i5 => zo sizeOf56 rfl rfl rfl rfl rfl rfl .head rfl<|z6<|za<|zSr<|z2 (zm underlying56 rfl sizeOf9 (by decide) rfl rfl)<|z2 (zp (c := .str _) isAgg9 rfl ⟨_, .head⟩ rfl)<|z2 (Gv.lenT underlying9 rfl)<|z2 (yt rfl rfl)<|z6<|zt rfl (fun cn=>?_) (fun cn=>?_)
    ·refine zSr<|z2 (zAb rfl)<|z6<|zg<|zj (x := .bool _) rfl ?_
     exact ⟨_, rfl, fun h => (by cases h), fun hl => absurd hl (fun hl => by have h1 := hl.2.2.2.1 _ (qg hk1); omega)⟩
    ·refine ze<|zRg<|z2 (zMi rfl)<|z2 (zm underlying56 rfl sizeOf9 (by decide) rfl rfl)<|z2 (zp (c := .str _) isAgg9 rfl ⟨_, .head⟩ rfl)<|z2 (Gv.lenT underlying9 rfl)<|z2 (zAd rfl rfl)<|z2 (zAi rfl)<|z6<|zRg<|z2 (zAd rfl rfl)<|z2 (zMi rfl)<|z6 ?_
     exact ⟨k + 1, zR3, ⟨rfl, congrArg (AV.int .i64) (by rw [hs]; omega), trivial⟩, ⟨_, (.drop (.refl _)), rfl⟩, ⟨hk1, by omega, forall_take hk1 hv (by omega)⟩, by omega⟩
   ·obtain rfl : k = f.vars.length := by omega
    rw [qh] at hw hv
    rw [qh]
    refine zz<|za<|zSr<|z2 (zFF underlying26 rfl sizeOf24 rfl rfl)<|z2 (zLf isAgg24 rfl)<|z2 (zq underlying24 rfl)<|z2 (zMi rfl)<|z6<|zd<|y1 (γ := Nat) [46, 47] (fun k => [(48, .int .i64 k), (3, .int .i64 (wV f.vars + wBs (f.blocks.take k) : Nat))]) (fun k => []) (fun k => k ≤ f.blocks.length ∧ (0 < k → wV f.vars + wBs (f.blocks.take k) ≤ 4000) ∧ wBs (f.blocks.take k) ≤ 4000 ∧ ∀ b ∈ f.blocks.take k, littleB b) (fun k => f.blocks.length - k) 0 zR2 zLe (⟨qf _, by omega, by simp [wBs], by simp⟩) ?_
    rintro k ⟨hk, hw2, hw3, hb⟩
    refine zSr<|z2 (y7 rfl rfl)<|z6<|za<|zt rfl (fun ck=>?_) (fun ck=>?_)
    ·have hk1 : k < f.blocks.length := by omega
     obtain ⟨hb1, hb2, hb3, hb4⟩ := hf4 _ (qg hk1)
     have hs := wBs_succ hk1
     refine ze<|za<|zd<|zSr<|z2 (yr underlying24 sizeOf66 rfl rfl rfl (qc (by omega)))<|z2 (zk isAgg66 sizeOf66 rfl rfl)<|zy (cs := [.str ⟨#[]⟩, .raw (.slice none 0 0), .raw (.slice none 0 0), .int .i64 0, .int .i64 0, .int .i64 0, .int .i64 0]) zeroValue66 rfl rfl<|fun i7 => zo sizeOf66 rfl rfl rfl rfl rfl rfl .head rfl<|z6<|za<|za<|yh (γ := Unit) [3, 7, 46, 47, 48] (fun u => [(67, .bool (few2 f.blocks[k]))]) (fun u => [(i7, .cells 66 (encBlk f.blocks[k]))]) (fun u => True) ?_ (fun _ _ h => h) ?_
     ·refine zRg<|z2 (zm underlying66 rfl sizeOf9 (by decide) rfl rfl)<|z2 (zp (c := .str _) isAgg9 rfl ⟨_, .head⟩ rfl)<|z2 (Gv.lenT underlying9 rfl)<|z2 (yt rfl rfl)<|z2 (zMb rfl)<|zn (s := 56) rfl (fun c3=>?_) (fun c3=>?_)
      ·refine z7 rfl rfl c3<|z7 rfl rfl c3<|z7 rfl rfl c3<|z7 rfl rfl c3<|z2 (zPt rfl c3 rfl)<|z2 (zMb rfl)<|z7 rfl rfl rfl<|z7 rfl rfl rfl<|z7 rfl rfl rfl<|z7 rfl rfl rfl<|z2 (zPt rfl rfl rfl)<|z6 ?_
       exact ⟨(), zR5, ⟨jb (by simp_all [few2] <;> grind), trivial⟩, zLe, trivial⟩
      ·refine z8 rfl rfl c3<|z2 (zm underlying66 rfl sizeOf59 (by decide) rfl rfl)<|z8 rfl rfl c3<|z2 (zp (c := .fro _ _) isAgg59 rfl ⟨_, .head⟩ rfl)<|z8 rfl rfl c3<|z2 (zq underlying59 rfl)<|z8 rfl rfl c3<|z2 (yt rfl rfl)<|z2 (zPf rfl c3 rfl)<|z2 (zMb rfl)<|zn (s := 62) rfl (fun c4=>?_) (fun c4=>?_)
       ·refine z7 rfl rfl c4<|z7 rfl rfl c4<|z7 rfl rfl c4<|z7 rfl rfl c4<|z2 (zPt rfl c4 rfl)<|z6 ?_
        exact ⟨(), zR5, ⟨jb (by simp_all [few2] <;> grind), trivial⟩, zLe, trivial⟩
       ·refine z8 rfl rfl c4<|z2 (zm underlying66 rfl sizeOf60 (by decide) rfl rfl)<|z8 rfl rfl c4<|z2 (zp (c := .fro _ _) isAgg60 rfl ⟨_, .head⟩ rfl)<|z8 rfl rfl c4<|z2 (zq underlying60 rfl)<|z8 rfl rfl c4<|z2 (yt rfl rfl)<|z2 (zPf rfl c4 rfl)<|z6 ?_
        exact ⟨(), zR5, ⟨jb (by simp_all [few2] <;> grind), trivial⟩, zLe, trivial⟩
     ·rintro _ _
      refine zr rfl (fun c2=>?_) (fun c2=>?_)
      ·refine zSr<|z2 (zAb rfl)<|z6<|zg<|zj (x := .bool _) rfl ?_
       exact ⟨_, rfl, fun h => (by cases h), fun hl => absurd hl (fun hl => by obtain ⟨h1, h2, h3, _⟩ := hl.2.2.2.2.1 _ (qg hk1); unfold few2 at c2; simp at c2; omega)⟩
      ·have hsb : f.blocks[k].name.size ≤ 400 ∧ f.blocks[k].phis.length ≤ 400 ∧ f.blocks[k].insts.length ≤ 400 := by unfold few2 at c2; simp at c2; omega
       refine ze<|zSr<|z2 (zMi rfl)<|z2 (zm underlying66 rfl sizeOf9 (by decide) rfl rfl)<|z2 (zp (c := .str _) isAgg9 rfl ⟨_, .head⟩ rfl)<|z2 (Gv.lenT underlying9 rfl)<|z2 (zm underlying66 rfl sizeOf59 (by decide) rfl rfl)<|z2 (zp (c := .fro _ _) isAgg59 rfl ⟨_, .head⟩ rfl)<|z2 (zq underlying59 rfl)<|z2 (zm underlying66 rfl sizeOf60 (by decide) rfl rfl)<|z2 (zp (c := .fro _ _) isAgg60 rfl ⟨_, .head⟩ rfl)<|z2 (zq underlying60 rfl)<|z2 (zAd rfl rfl)<|z2 (Gv.mul rfl rfl (by unfold I64; omega))<|z2 (zAd rfl rfl)<|z2 (zAd rfl rfl)<|z2 (zAi rfl)<|z6<|za<|zSr<|z2 (zm underlying66 rfl sizeOf59 (by decide) rfl rfl)<|z2 (zp (c := .fro _ _) isAgg59 rfl ⟨_, .head⟩ rfl)<|z2 (zq underlying59 rfl)<|z2 (zMi rfl)<|z6<|zd<|y1 (γ := Nat) [7, 46, 47, 48, 83, 84] (fun m => [(85, .int .i64 m), (3, .int .i64 (wV f.vars + wBs (f.blocks.take k) + (f.blocks[k].name.size + 10 * (f.blocks[k].phis.length + f.blocks[k].insts.length)) + wP (f.blocks[k].phis.take m) : Nat))]) (fun m => [(i7, .cells 66 (encBlk f.blocks[k]))]) (fun m => m ≤ f.blocks[k].phis.length ∧ wP (f.blocks[k].phis.take m) ≤ 800 * m ∧ ∀ p ∈ f.blocks[k].phis.take m, p.args.length ≤ 400 ∧ p.from_.length ≤ 400) (fun m => f.blocks[k].phis.length - m) 0 ⟨rfl, (congrArg (AV.int .i64) (by simp [wP] <;> omega)), trivial⟩ zLe (⟨qf _, by simp [wP], by simp⟩) ?_
       rintro m ⟨hm, hwp, hp⟩
       refine zSr<|z2 (y7 rfl rfl)<|z6<|za<|zt rfl (fun cm=>?_) (fun cm=>?_)
       ·have hm1 : m < f.blocks[k].phis.length := by omega
        obtain ⟨hq1, hq2⟩ := hb3 _ (qg hm1)
        have hl6 := hq1.lt
        have hl7 := hq2.lt
        have hs2 := wP_succ hm1
        refine ze<|za<|zd<|zSr<|z2 (yr underlying59 sizeOf95 rfl rfl rfl (qc (by omega)))<|z2 (zk isAgg95 sizeOf95 rfl rfl)<|zy (cs := [.int .i64 0, .raw (.slice none 0 0), .raw (.slice none 0 0)]) zeroValue95 rfl rfl<|fun i9 => zo sizeOf95 rfl rfl rfl rfl rfl rfl .head rfl<|z6<|za<|za<|yh (γ := Unit) [3, 7, 9, 46, 47, 48, 83, 84, 85] (fun u => [(102, .bool (decide ((4000 : Int) < (wV f.vars + wBs (f.blocks.take k) + (f.blocks[k].name.size + 10 * (f.blocks[k].phis.length + f.blocks[k].insts.length)) + wP (f.blocks[k].phis.take m) : Nat)) || (decide ((400 : Int) < f.blocks[k].phis[m].args.length) || decide ((400 : Int) < f.blocks[k].phis[m].from_.length))))]) (fun u => [(i9, .cells 95 (encPhi f.blocks[k].phis[m])), (i7, .cells 66 (encBlk f.blocks[k]))]) (fun u => True) ?_ (fun _ _ h => h) ?_
        ·refine zRg<|z2 (zMi rfl)<|z2 (yt rfl rfl)<|z2 (zMb rfl)<|zn (s := 91) rfl (fun c5=>?_) (fun c5=>?_)
         ·refine z7 rfl rfl c5<|z7 rfl rfl c5<|z7 rfl rfl c5<|z7 rfl rfl c5<|z2 (zPt rfl c5 rfl)<|z2 (zMb rfl)<|z7 rfl rfl rfl<|z7 rfl rfl rfl<|z7 rfl rfl rfl<|z7 rfl rfl rfl<|z2 (zPt rfl rfl rfl)<|z6 ?_
          exact ⟨(), zR9, ⟨jb (by simp_all <;> grind), trivial⟩, zLe, trivial⟩
         ·refine z8 rfl rfl c5<|z2 (zm underlying95 rfl sizeOf23 (by decide) rfl rfl)<|z8 rfl rfl c5<|z2 (zp (c := .fro _ _) isAgg23 rfl ⟨_, .head⟩ rfl)<|z8 rfl rfl c5<|z2 (zq underlying23 rfl)<|z8 rfl rfl c5<|z2 (yt rfl rfl)<|z2 (zPf rfl c5 rfl)<|z2 (zMb rfl)<|zn (s := 97) rfl (fun c6=>?_) (fun c6=>?_)
          ·refine z7 rfl rfl c6<|z7 rfl rfl c6<|z7 rfl rfl c6<|z7 rfl rfl c6<|z2 (zPt rfl c6 rfl)<|z6 ?_
           exact ⟨(), zR9, ⟨jb (by simp_all <;> grind), trivial⟩, zLe, trivial⟩
          ·refine z8 rfl rfl c6<|z2 (zm underlying95 rfl sizeOf23 (by decide) rfl rfl)<|z8 rfl rfl c6<|z2 (zp (c := .fro _ _) isAgg23 rfl ⟨_, .head⟩ rfl)<|z8 rfl rfl c6<|z2 (zq underlying23 rfl)<|z8 rfl rfl c6<|z2 (yt rfl rfl)<|z2 (zPf rfl c6 rfl)<|z6 ?_
           exact ⟨(), zR9, ⟨jb (by simp_all <;> grind), trivial⟩, zLe, trivial⟩
        ·rintro _ _
         refine zr rfl (fun cp=>?_) (fun cp=>?_)
         ·refine zSr<|z2 (zAb rfl)<|z6<|zg<|zj (x := .bool _) rfl ?_
          exact ⟨_, rfl, fun h => (by cases h), fun hl => absurd hl (fun hl => by obtain ⟨_, _, _, h4, _⟩ := hl.2.2.2.2.1 _ (qg hk1); have h5 := h4 _ (qg hm1); have h9 := little_le hl hk1; have hwb : wB f.blocks[k] = f.blocks[k].name.size + 10 * (f.blocks[k].phis.length + f.blocks[k].insts.length) + wP f.blocks[k].phis + wX f.blocks[k].insts := rfl; have h10 := wP_take f.blocks[k].phis m; simp only [Bool.or_eq_true, qr] at cp; omega)⟩
         ·rcases Bool.or_eq_false_iff.1 cp with ⟨a1, a2⟩
          rcases Bool.or_eq_false_iff.1 a2 with ⟨a3, a4⟩
          have a3 := of_decide_eq_false a3
          have a4 := of_decide_eq_false a4
          refine ze<|zRg<|z2 (zMi rfl)<|z2 (zm underlying95 rfl sizeOf23 (by decide) rfl rfl)<|z2 (zp (c := .fro _ _) isAgg23 rfl ⟨_, .head⟩ rfl)<|z2 (zq underlying23 rfl)<|z2 (zm underlying95 rfl sizeOf23 (by decide) rfl rfl)<|z2 (zp (c := .fro _ _) isAgg23 rfl ⟨_, .head⟩ rfl)<|z2 (zq underlying23 rfl)<|z2 (zAd rfl rfl)<|z2 (zAd rfl rfl)<|z2 (zAi rfl)<|z6<|zRg<|z2 (zAd rfl rfl)<|z2 (zMi rfl)<|z6 ?_
          exact ⟨m + 1, zR6, ⟨rfl, congrArg (AV.int .i64) (by rw [hs2]; omega), trivial⟩, ⟨_, (.drop (.refl _)), rfl⟩, ⟨hm1, by omega, forall_take hm1 hp ⟨by omega, by omega⟩⟩, by omega⟩
       ·obtain rfl : m = f.blocks[k].phis.length := by omega
        rw [qh] at hwp hp
        rw [qh]
        refine zz<|za<|zSr<|z2 (zm underlying66 rfl sizeOf60 (by decide) rfl rfl)<|z2 (zp (c := .fro _ _) isAgg60 rfl ⟨_, .head⟩ rfl)<|z2 (zq underlying60 rfl)<|z2 (zMi rfl)<|z6<|zd<|y1 (γ := Nat) [46, 47, 48, 114, 115] (fun m => [(116, .int .i64 m), (3, .int .i64 (wV f.vars + wBs (f.blocks.take k) + (f.blocks[k].name.size + 10 * (f.blocks[k].phis.length + f.blocks[k].insts.length)) + wP f.blocks[k].phis + wX (f.blocks[k].insts.take m) : Nat))]) (fun m => [(i7, .cells 66 (encBlk f.blocks[k]))]) (fun m => m ≤ f.blocks[k].insts.length ∧ wX (f.blocks[k].insts.take m) ≤ 400 * m ∧ ∀ p ∈ f.blocks[k].insts.take m, p.args.length ≤ 400) (fun m => f.blocks[k].insts.length - m) 0 ⟨rfl, (congrArg (AV.int .i64) (by simp [wX] <;> omega)), trivial⟩ zLe (⟨qf _, by simp [wX], by simp⟩) ?_
        rintro m ⟨hm, hwx, hx⟩
        refine zSr<|z2 (y7 rfl rfl)<|z6<|za<|zt rfl (fun cm=>?_) (fun cm=>?_)
        ·have hm1 : m < f.blocks[k].insts.length := by omega
         have hq1 := hb4 _ (qg hm1)
         have hl6 := hq1.lt
         have hs2 := wX_succ hm1
         refine ze<|za<|zd<|zSr<|z2 (yr underlying60 sizeOf33 rfl rfl rfl (qc (by omega)))<|z2 (zk isAgg33 sizeOf33 rfl rfl)<|zy (cs := [.int .i64 0, .int .i64 0, .raw (.slice none 0 0), .int .i64 0]) zeroValue33 rfl rfl<|fun i11 => zo sizeOf33 rfl rfl rfl rfl rfl rfl .head rfl<|z6<|za<|za<|yh (γ := Unit) [3, 11, 46, 47, 48, 114, 115, 116] (fun u => [(127, .bool (decide ((4000 : Int) < (wV f.vars + wBs (f.blocks.take k) + (f.blocks[k].name.size + 10 * (f.blocks[k].phis.length + f.blocks[k].insts.length)) + wP f.blocks[k].phis + wX (f.blocks[k].insts.take m) : Nat)) || decide ((400 : Int) < f.blocks[k].insts[m].args.length)))]) (fun u => [(i11, .cells 33 (encInst f.blocks[k].insts[m])), (i7, .cells 66 (encBlk f.blocks[k]))]) (fun u => True) ?_ (fun _ _ h => h) ?_
         ·refine zRg<|z2 (zMi rfl)<|z2 (yt rfl rfl)<|z2 (zMb rfl)<|zn (s := 122) rfl (fun c7=>?_) (fun c7=>?_)
          ·refine z7 rfl rfl c7<|z7 rfl rfl c7<|z7 rfl rfl c7<|z7 rfl rfl c7<|z2 (zPt rfl c7 rfl)<|z6 ?_
           exact ⟨(), zR8, ⟨jb (by simp_all <;> grind), trivial⟩, zLe, trivial⟩
          ·refine z8 rfl rfl c7<|z2 (zm underlying33 rfl sizeOf23 (by decide) rfl rfl)<|z8 rfl rfl c7<|z2 (zp (c := .fro _ _) isAgg23 rfl ⟨_, .head⟩ rfl)<|z8 rfl rfl c7<|z2 (zq underlying23 rfl)<|z8 rfl rfl c7<|z2 (yt rfl rfl)<|z2 (zPf rfl c7 rfl)<|z6 ?_
           exact ⟨(), zR8, ⟨jb (by simp_all <;> grind), trivial⟩, zLe, trivial⟩
         ·rintro _ _
          refine zr rfl (fun cp=>?_) (fun cp=>?_)
          ·refine zSr<|z2 (zAb rfl)<|z6<|zg<|zj (x := .bool _) rfl ?_
           exact ⟨_, rfl, fun h => (by cases h), fun hl => absurd hl (fun hl => by obtain ⟨_, _, _, _, h4⟩ := hl.2.2.2.2.1 _ (qg hk1); have h5 := h4 _ (qg hm1); have h9 := little_le hl hk1; have hwb : wB f.blocks[k] = f.blocks[k].name.size + 10 * (f.blocks[k].phis.length + f.blocks[k].insts.length) + wP f.blocks[k].phis + wX f.blocks[k].insts := rfl; have h10 := wX_take f.blocks[k].insts m; simp only [Bool.or_eq_true, qr] at cp; omega)⟩
          ·rcases Bool.or_eq_false_iff.1 cp with ⟨a1, a2⟩
           have a2 := of_decide_eq_false a2
           refine ze<|zRg<|z2 (zMi rfl)<|z2 (zm underlying33 rfl sizeOf23 (by decide) rfl rfl)<|z2 (zp (c := .fro _ _) isAgg23 rfl ⟨_, .head⟩ rfl)<|z2 (zq underlying23 rfl)<|z2 (zAd rfl rfl)<|z2 (zAi rfl)<|z6<|zRg<|z2 (zAd rfl rfl)<|z2 (zMi rfl)<|z6 ?_
           exact ⟨m + 1, zR5, ⟨rfl, congrArg (AV.int .i64) (by rw [hs2]; omega), trivial⟩, ⟨_, (.drop (.refl _)), rfl⟩, ⟨hm1, by omega, forall_take hm1 hx (by omega)⟩, by omega⟩
        ·obtain rfl : m = f.blocks[k].insts.length := by omega
         rw [qh] at hwx hx
         rw [qh]
         refine zz<|zSr<|z2 (zMi rfl)<|z2 (yt rfl rfl)<|z6<|zt rfl (fun cz=>?_) (fun cz=>?_)
         ·refine zSr<|z2 (zAb rfl)<|z6<|zg<|zj (x := .bool _) rfl ?_
          exact ⟨_, rfl, fun h => (by cases h), fun hl => absurd hl (fun hl => by have h9 := little_le hl hk1; have hwb : wB f.blocks[k] = f.blocks[k].name.size + 10 * (f.blocks[k].phis.length + f.blocks[k].insts.length) + wP f.blocks[k].phis + wX f.blocks[k].insts := rfl; omega)⟩
         ·have hwb : wB f.blocks[k] = f.blocks[k].name.size + 10 * (f.blocks[k].phis.length + f.blocks[k].insts.length) + wP f.blocks[k].phis + wX f.blocks[k].insts := rfl
          refine ze<|zRg<|z2 (zAd rfl rfl)<|z2 (zMi rfl)<|z6 ?_
          exact ⟨k + 1, zR2, ⟨rfl, congrArg (AV.int .i64) (by rw [hs]; omega), trivial⟩, ⟨_, (.drop (.refl _)), rfl⟩, ⟨hk1, by omega, by omega, forall_take hk1 hb ⟨hsb.1, hsb.2.1, hsb.2.2, hp, hx⟩⟩, by omega⟩
    ·obtain rfl : k = f.blocks.length := by omega
     rw [qh] at hw2 hw3 hb
     refine zz<|zSr<|z2 (zAb rfl)<|z6<|zg<|zj (x := .bool _) rfl ?_
     exact ⟨_, rfl, fun _ => ⟨hsz.1, hsz.2.1, hsz.2.2, hv, hb, fun hne => hw2 (List.length_pos_iff.2 hne)⟩, fun _ => rfl⟩
theorem lawShaped2_spec (f : PFunc) (hf : okFunc f) (hn : okNames f) (hL : Letters E) : AFun prog E 119 [.agg (encF f)] (.bool (decide (ShapedP f))) := by
 refine zl func119 rfl (by decide) rfl<|zSr<|y4 (cs := _) rfl rfl rfl<|z2 (zAb rfl)<|z6<|zSr<|z2 (zk isAgg26 sizeOf26 rfl rfl)<|zc (refShaped_spec _ (by assumption) (by assumption) hL) rfl<|z2 (zAb rfl)<|z6<|zg<|zj (x := .bool _) rfl ?_
 rfl
noncomputable def fewB (f : PFunc) : Bool := @decide (little f) (Classical.propDecidable _)
theorem fewB_iff (f : PFunc) : fewB f = true ↔ little f := by unfold fewB; exact @decide_eq_true_iff _ (Classical.propDecidable _)
theorem fewT_spec (f : PFunc) (hf : wFunc f) : AFun prog E 12 [.agg (encF f)] (.bool (fewB f)) :=
 (fewIff_spec f hf).mono fun x O' ⟨b, e, h⟩ => by
  rw [e]
  congr 1
  rw [ql, h, fewB_iff]
theorem refPlain_spec (f : PFunc) (hE : EndsOk f) (hf : small f) (hS : ShapedP f) : AFun prog E 54 [.agg (encF f)] (.bool (plainB f && singR f)) := by
 have hn := hf.2.2.1
 refine zl func54 rfl (by decide) rfl<|zSr<|y4 (cs := _) rfl rfl rfl<|z2 (zAb rfl)<|z6<|za<|zSr<|z2 (zFF underlying26 rfl sizeOf24 rfl rfl)<|z2 (zLf isAgg24 rfl)<|z2 (zq underlying24 rfl)<|z2 (zMi rfl)<|z6<|zd<|y1 (γ := Nat) [1, 8, 9] (fun i => [(10, .int .i64 i)]) (fun i => []) (fun i => i ≤ f.blocks.length ∧ (f.blocks.take i).all (fun b => !(b.insts.any fun x => decide (x.op = 25) || decide (x.op = 26))) = true) (fun i => f.blocks.length - i) 0 zR1 zLe (⟨qf _, rfl⟩) ?_
 rintro i ⟨hi, hall⟩
 refine zSr<|z2 (y7 rfl rfl)<|z6<|za<|zt rfl (fun ci=>?_) (fun ci=>?_)
 ·have hi2 : i < f.blocks.length := by simp at ci; omega
  obtain ⟨b, hbi⟩ : ∃ b, f.blocks[i] = b := ⟨_, rfl⟩
  have hget : f.blocks[i]? = some b := by rw [qc hi2, hbi]
  have hmem : b ∈ f.blocks := hbi ▸ qg hi2
  obtain ⟨hb0, hb1, hb2, hb3, hb4⟩ := hf.2.2.2.2 b hmem
  obtain ⟨hPh, hIn, hTm⟩ := hS.2.2.2.2.2 b hmem
  refine ze<|za<|zd<|zSr<|z2 (zIM i underlying24 sizeOf66 rfl rfl rfl hget)<|z2 (zk isAgg66 sizeOf66 rfl rfl)<|zy (cs := [.str ⟨#[]⟩, .raw (.slice none 0 0), .raw (.slice none 0 0), .int .i64 0, .int .i64 0, .int .i64 0, .int .i64 0]) zeroValue66 rfl rfl<|fun i4 => zo sizeOf66 rfl rfl rfl rfl rfl rfl .head rfl<|zb (y9 (t := 4) rfl .head)<|z6<|zSr<|z2 (zFF underlying66 rfl sizeOf60 rfl rfl)<|z2 (zLf isAgg60 rfl)<|z2 (zq underlying60 rfl)<|z2 (zMi rfl)<|z6<|zd<|y1 (γ := Nat) [1, 8, 9, 10, 15, 16] (fun k => [(17, .int .i64 k)]) (fun k => []) (fun k => k ≤ b.insts.length ∧ (b.insts.take k).all (fun x => !(decide (x.op = 25) || decide (x.op = 26))) = true) (fun k => b.insts.length - k) 0 zR1 zLe (⟨qf _, rfl⟩) ?_
  rintro k ⟨hk, hkall⟩
  refine zSr<|z2 (y7 rfl rfl)<|z6<|za<|zt rfl (fun ck=>?_) (fun ck=>?_)
  ·have hk2 : k < b.insts.length := by simp at ck; omega
   have hI := (instP_F (hIn _ (qg hk2))).op
   refine ze<|za<|zd<|zSr<|z2 (zIM k underlying60 sizeOf33 rfl rfl rfl (qc hk2))<|z2 (zk isAgg33 sizeOf33 rfl rfl)<|zy (cs := [.int .i64 0, .int .i64 0, .raw (.slice none 0 0), .int .i64 0]) zeroValue33 rfl rfl<|fun i6 => zo sizeOf33 rfl rfl rfl rfl rfl rfl .head rfl<|zb (y9 (t := 6) rfl .head)<|z6<|zSr<|z2 (zFF underlying33 rfl sizeOf31 rfl rfl)<|z2 (zLi isAgg31 rfl)<|z2 (yz rfl rfl)<|z6<|zt rfl (fun cq=>?_) (fun cq=>?_)
   ·have hbad : (b.insts.any fun x => decide (x.op = 25) || decide (x.op = 26)) = true := List.any_eq_true.2 ⟨_, qg hk2, by simp; omega⟩
    refine zSr<|z2 (zAb rfl)<|z6<|zg<|zj (x := .bool _) rfl ?_
    rw [show plainB f = false from Bool.eq_false_iff.2 (all_bad hi2 (by rw [hbi, hbad]; rfl))]; rfl
   ·refine ze<|zRg<|z2 (zAd rfl rfl)<|z2 (zMi rfl)<|z6 ?_
    exact ⟨k + 1, zR6, zR1, zLe, ⟨hk2, all_take hk2 hkall (by simp; omega)⟩, by omega⟩
  ·have hkn : k = b.insts.length := by simp at ck; omega
   rw [hkn, qh] at hkall
   have hgood : (b.insts.any fun x => decide (x.op = 25) || decide (x.op = 26)) = false := List.any_eq_false.2 fun x hx => by have := List.all_eq_true.1 hkall x hx; simpa using this
   refine zz<|zRg<|z2 (zAd rfl rfl)<|z2 (zMi rfl)<|z6 ?_
   exact ⟨i + 1, zR3, zR1, zLe, ⟨hi2, all_take hi2 hall (by rw [hbi, hgood]; rfl)⟩, by omega⟩
 ·have hin : i = f.blocks.length := by simp at ci; omega
  rw [hin, qh] at hall
  refine zz<|zSr<|z2 (zk isAgg26 sizeOf26 rfl rfl)<|zc (refSingle_spec f hE hf hS) rfl<|z2 (zAb rfl)<|z6<|zg<|zj (x := .bool _) rfl ?_
  rw [show plainB f = true from hall]; rfl
theorem lawTyped8_spec (f : PFunc) (hf : small f) (hL : Letters E) : AFun prog E 75 [.agg (encF f)] (.bool (typedB f)) := by
 have hs := lawShaped2_spec (E := E) f hf.ok hf.names hL
 refine zl func75 rfl (by decide) rfl<|zSr<|y4 (cs := _) rfl rfl rfl<|z2 (zAb rfl)<|z6<|zSr<|z2 (zk isAgg26 sizeOf26 rfl rfl)<|zc (hs) rfl ?_
 by_cases g4 : ShapedP f
 ·refine z2 (zMb rfl)<|z8 rfl rfl (qn g4)<|z2 (zk isAgg26 sizeOf26 rfl rfl)<|z8 rfl rfl (qn g4)<|zc (refTyped_spec f hf g4) rfl<|z2 (zPt rfl (qn g4) rfl)<|z2 (zAb rfl)<|z6<|zg<|zj (x := .bool _) rfl ?_
  exact jb (by unfold typedB; rw [shapedB_eq, qn g4]; rfl)
 ·refine z2 (zMb rfl)<|z7 rfl rfl (qo g4)<|z7 rfl rfl (qo g4)<|z2 (zPf rfl (qo g4) rfl)<|z2 (zAb rfl)<|z6<|zg<|zj (x := .bool _) rfl ?_
  exact jb (by unfold typedB; rw [shapedB_eq, qo g4]; rfl)
theorem lawTyped_spec (f : PFunc) (hw : wFunc f) (hL : Letters E) : AFun prog E 37 [.agg (encF f)] (.bool (fewB f && typedB f)) := by
 refine zl func37 rfl (by decide) rfl<|zSr<|y4 (cs := _) rfl rfl rfl<|z2 (zAb rfl)<|z6<|zSr<|z2 (zk isAgg26 sizeOf26 rfl rfl)<|zc (fewT_spec f hw) rfl<|z2 (zMb rfl)<|zn (s := 5) rfl (fun g=>?_) (fun g=>?_)
 ·refine z8 rfl rfl g<|z2 (zk isAgg26 sizeOf26 rfl rfl)<|z8 rfl rfl g<|zc (lawTyped8_spec f ((fewB_iff f).1 g).small hL) rfl<|z2 (zPt rfl g rfl)<|z2 (zAb rfl)<|z6<|zg<|zj (x := .bool _) rfl ?_
  exact jb (by rw [g]; rfl)
 ·refine z7 rfl rfl g<|z7 rfl rfl g<|z2 (zPf rfl g rfl)<|z2 (zAb rfl)<|z6<|zg<|zj (x := .bool _) rfl ?_
  exact jb (by rw [g]; rfl)
noncomputable def lawPlain (f : PFunc) : Bool := fewB f && typedB f && (singB f && plainB f)
theorem and3 {a b : Bool} (h : (a && b) = true) : a = true ∧ b = true := by simpa using h
theorem singR_typed {f : PFunc} (h : typedB f = true) : singR f = singB f :=
 singR_eq (typedB_ends h) fun b hb p hp c hc => by
  have h1 := ((typedB_shaped h).2.2.2.2.2 b hb).1 p hp
  have h2 := List.all_eq_true.1 h1.2.2.2.2 c hc
  simpa [hasB] using h2
theorem lawPlain_spec (f : PFunc) (hw : wFunc f) (hL : Letters E) : AFun prog E 15 [.agg (encF f)] (.bool (lawPlain f)) := by
 refine zl func15 rfl (by decide) rfl<|zSr<|y4 (cs := _) rfl rfl rfl<|z2 (zAb rfl)<|z6<|zSr<|z2 (zk isAgg26 sizeOf26 rfl rfl)<|zc (lawTyped_spec f hw hL) rfl<|z2 (zMb rfl)<|zn (s := 5) rfl (fun g=>?_) (fun g=>?_)
 ·refine z8 rfl rfl g<|z2 (zk isAgg26 sizeOf26 rfl rfl)<|z8 rfl rfl g<|zc (refPlain_spec f (typedB_ends (and3 g).2) ((fewB_iff f).1 (and3 g).1).small (typedB_shaped (and3 g).2)) rfl<|z2 (zPt rfl g rfl)<|z2 (zAb rfl)<|z6<|zg<|zj (x := .bool _) rfl ?_
  exact jb (by unfold lawPlain; rw [g, singR_typed (and3 g).2, Bool.and_comm]; rfl)
 ·refine z7 rfl rfl g<|z7 rfl rfl g<|z2 (zPf rfl g rfl)<|z2 (zAb rfl)<|z6<|zg<|zj (x := .bool _) rfl ?_
  exact jb (by unfold lawPlain; rw [g]; rfl)
end Go.Proofs.YtjnpcfpecilejaaGreatDoor
namespace Go.Proofs.YtjnpcfpecilejaaGreatDoor
open Go.Proofs.Tryz
abbrev Rng := Int × Int
def is64 (x : Int) : Prop := -9223372036854775808 ≤ x ∧ x ≤ 9223372036854775807
instance (x : Int) : Decidable (is64 x) := by unfold is64; infer_instance
def ok64 (r : Rng) : Prop := is64 r.1 ∧ is64 r.2
def noR : Rng := (1, 0)
def rMade (lo hi : Int) : Rng := if hi < lo then noR else (lo, hi)
def imin (a b : Int) : Int := if b < a then b else a
def imax (a b : Int) : Int := if a < b then b else a
def rJoin (a b : Rng) : Rng := if a.2 < a.1 then rMade b.1 b.2 else if b.2 < b.1 then a else (imin a.1 b.1, imax a.2 b.2)
def op3 (k : Nat) (x y : Int) : Int := if k = 0 then x + y else if k = 1 then x - y else x * y
def fit3 (k : Nat) (x y : Int) : Prop := is64 (op3 k x y)
instance (k : Nat) (x y : Int) : Decidable (fit3 k x y) := by unfold fit3; infer_instance
def rOf (n : Int) : Rng := (n, n)
def cornF (k : Nat) (a b : Rng) : Prop := fit3 k a.1 b.1 ∧ fit3 k a.1 b.2 ∧ fit3 k a.2 b.1 ∧ fit3 k a.2 b.2
instance (k : Nat) (a b : Rng) : Decidable (cornF k a b) := by unfold cornF; infer_instance
end Go.Proofs.YtjnpcfpecilejaaGreatDoor
namespace Go.Proofs.YtjnpcfpecilejaaGreatDoor
open Go.Proofs.Tryz
def rSub (r s : Rng) : Prop := r.2 < r.1 ∨ (s.1 ≤ r.1 ∧ r.2 ≤ s.2)
theorem rSub.refl (r : Rng) : rSub r r := .inr ⟨Int.le_refl _, Int.le_refl _⟩
theorem rSub.trans {r s t : Rng} (h : rSub r s) (k : rSub s t) : rSub r t := by
 rcases h with h | h
 ·exact .inl h
 ·rcases k with k | k
  ·exact .inl (by omega)
  ·exact .inr (by omega)
end Go.Proofs.YtjnpcfpecilejaaGreatDoor
namespace Go.Proofs.YtjnpcfpecilejaaGreatDoor
open Go.Proofs.Tryz
end Go.Proofs.YtjnpcfpecilejaaGreatDoor
namespace Go.Proofs.YtjnpcfpecilejaaGreatDoor
open Go.Proofs.Tryz
end Go.Proofs.YtjnpcfpecilejaaGreatDoor
namespace Go.Proofs.YtjnpcfpecilejaaGreatDoor
open Go.Proofs.Tryz
def ra (rs : List Rng) (i : Nat) : Rng := (rs[i]?).getD (0, 0)
structure Less (a a' : Rng) : Prop where
 ok : ok64 a
 ok' : ok64 a'
 ne : a.1 ≤ a.2
 sub : a'.1 ≤ a.1 ∧ a.2 ≤ a'.2
theorem Less.zero : Less (0, 0) (0, 0) := ⟨⟨by decide, by decide⟩, ⟨by decide, by decide⟩, by decide, by decide, by decide⟩
end Go.Proofs.YtjnpcfpecilejaaGreatDoor
namespace Go.Proofs.YtjnpcfpecilejaaGreatDoor
open Go.Proofs.Tryz
def lv (l : List Rng) (v : Int) : Rng := (l[v.toNat]?).getD noR
structure Rules (n : Nat) (rule : List Rng → Int → Rng) (vs : List Int) : Prop where
 mono : ∀ l l' v, l.length = n → l'.length = n → (∀ u : Int, 0 ≤ u → rSub (lv l u) (lv l' u)) → (∀ u : Int, 0 ≤ u → ok64 (lv l u)) → (∀ u : Int, 0 ≤ u → ok64 (lv l' u)) → v ∈ vs → rSub (rule l v) (rule l' v)
 ok : ∀ l v, l.length = n → (∀ u : Int, 0 ≤ u → ok64 (lv l u)) → v ∈ vs → ok64 (rule l v)
 rng : ∀ v ∈ vs, 0 ≤ v ∧ v < n
end Go.Proofs.YtjnpcfpecilejaaGreatDoor
namespace Go.Proofs.YtjnpcfpecilejaaGreatDoor
open Go.Proofs.Tryz
section
variable {n : Nat} {rule : List Rng → Int → Rng} {widn : Nat → Int → Option Rng} {vs : List Int} (hR : Rules n rule vs) (hw : ∀ i v t, widn i v = some t → ok64 t)
include hR hw
end
end Go.Proofs.YtjnpcfpecilejaaGreatDoor
namespace Go.Proofs.YtjnpcfpecilejaaGreatDoor
open Go.Proofs.Tryz
end Go.Proofs.YtjnpcfpecilejaaGreatDoor
namespace Go.Proofs.YtjnpcfpecilejaaGreatDoor
open Go.Proofs.Tryz
theorem range_any_succ {p : Nat → Bool} {k : Nat} (h : (List.range k).any p = false) (hk : p k = false) : (List.range (k + 1)).any p = false := by rw [List.range_succ, List.any_append, h]; simp [hk]
theorem range_any_hit {p : Nat → Bool} {k n : Nat} (hk : k < n) (h : p k = true) : (List.range n).any p = true := List.any_eq_true.2 ⟨k, List.mem_range.2 hk, h⟩
theorem any_take {α : Type} {p : α → Bool} {l : List α} {k : Nat} (h : k < l.length) (h1 : (l.take k).any p = false) (h2 : p l[k] = false) : (l.take (k + 1)).any p = false := by
 rw [qd h, List.any_append, h1]; simp [h2]
end Go.Proofs.YtjnpcfpecilejaaGreatDoor
namespace Go.Proofs.YtjnpcfpecilejaaGreatDoor
open Go.Proofs.Tryz
def stopB (op : Int) : Bool := decide (op = 15) || (decide (op = 17) || (decide (18 ≤ op) && decide (op ≤ 24)))
def inTo (f : PFunc) (b : Int) : List Int := predsT (EndsOf f) f.blocks.length b
def ownB (f : PFunc) (b v : Int) : Bool := decide ((makerT f v).1 = b) && decide (0 ≤ (makerT f v).2)
def mayB (f : PFunc) (b : Int) : Bool := decide (2 ≤ (inTo f b).length) && !(inTo f b).contains b
def instsAt (f : PFunc) (b : Int) : List PInst := ((f.blocks[b.toNat]?).map PBlock.insts).getD []
def phisAt (f : PFunc) (b : Int) : List PPhi := ((f.blocks[b.toNat]?).map PBlock.phis).getD []
def instOf (f : PFunc) (b a : Int) : PInst := ((instsAt f b)[a.toNat]?).getD ⟨0, -1, [], 0⟩
def firstJ (f : PFunc) (b i : Int) : Int := if i < 0 then -1 else if (18 ≤ (instOf f b i).op ∧ (instOf f b i).op ≤ 24) ∧ (instOf f b i).args.any (ownB f b) = false then i else -1
def firstF (f : PFunc) (b : Int) : Int := if (0 ≤ b ∧ b < f.blocks.length) ∧ mayB f b = true then firstJ f b (firstI (fun x => stopB x.op) (instsAt f b) 0) else -1
def ixF (l : List Int) (p : Int) : Int := firstI (fun x => decide (p = x)) l 0
def comesB (p v : Int) (q : PPhi) : Bool := decide (q.dst = v) && decide (0 ≤ ixF q.from_ p)
def toV (ps : List PPhi) (p v : Int) : Int := ((ps.find? (comesB p v)).map fun q => (q.args[(ixF q.from_ p).toNat]?).getD v).getD v
def fromF (f : PFunc) (b a p : Int) : PInst := ⟨(instOf f b a).op, -1, (instOf f b a).args.map (toV (phisAt f b) p), 0⟩
def passQ (f : PFunc) (x : PInst) (i : Nat) (p : Int) (own : Plc) (q : PInst × Nat) : Bool := decide (q.1.op = x.op) && (decide (q.1.args = x.args) && (!decide (((i : Int), (q.2 : Int)) = own) && aheadB f ((i : Int), (q.2 : Int)) p (lenAt f p)))
def passI (f : PFunc) (x : PInst) (p : Int) (own : Plc) (i : Nat) : Bool := ((f.blocks[i]?).map fun b => b.insts.zipIdx.any (passQ f x i p own)).getD false
def passF (f : PFunc) (x : PInst) (p : Int) (own : Plc) : Bool := (List.range f.blocks.length).any (passI f x p own)
theorem passI_at {f : PFunc} {x : PInst} {p : Int} {own : Plc} {i : Nat} {b : PBlock} (h : f.blocks[i]? = some b) : passI f x p own i = b.insts.zipIdx.any (passQ f x i p own) := by unfold passI; rw [h]; rfl
def setI (bs : List PBlock) (p : Nat) (g : List PInst → List PInst) : List PBlock := ((bs[p]?).map fun b => bs.set p { b with insts := g b.insts }).getD bs
def sumI (bs : List PBlock) : Nat := (bs.map fun b => b.phis.length + b.insts.length).sum
def addX (f : PFunc) (b a : Int) (st : List PBlock × Bool) (p : Int) : List PBlock × Bool :=
 if passF f (fromF f b a p) p (b, a) = true then (st.1, true) else (setI st.1 p.toNat (· ++ [fromF f b a p]), st.2)
def shutB (f : PFunc) (b a p : Int) : Bool := !passF f (fromF f b a p) p (b, a) && decide (1 < (EndsOf f p).length)
def movedB (f : PFunc) (b a : Int) : List PBlock := setI ((inTo f b).foldl (addX f b a) (f.blocks, false)).1 b.toNat (fun l => l.eraseIdx a.toNat)
def stepF (f : PFunc) (pl : Bool) (b : Int) : PFunc × Bool :=
 if pl = true ∧ 0 ≤ firstF f b ∧ (inTo f b).any (shutB f b (firstF f b)) = false ∧ ((inTo f b).foldl (addX f b (firstF f b)) (f.blocks, false)).2 = true ∧ sumI (movedB f b (firstF f b)) ≤ 1024
 then ({ f with blocks := movedB f b (firstF f b) }, true) else (f, false)
theorem setI_len (bs : List PBlock) (p : Nat) (g : List PInst → List PInst) : (setI bs p g).length = bs.length := by unfold setI; cases bs[p]? <;> simp
theorem addX_len (f : PFunc) (b a : Int) (st : List PBlock × Bool) (p : Int) : (addX f b a st p).1.length = st.1.length := by unfold addX; split <;> simp [setI_len]
theorem addX_fold_len (f : PFunc) (b a : Int) : ∀ (l : List Int) (st : List PBlock × Bool), (l.foldl (addX f b a) st).1.length = st.1.length
 | [], _ => rfl
 | p :: l, st => by rw [List.foldl_cons, addX_fold_len f b a l, addX_len]
end Go.Proofs.YtjnpcfpecilejaaGreatDoor
namespace Go.Proofs.YtjnpcfpecilejaaGreatDoor
open Go.Proofs.Tryz
open Go.Proofs Go.Lib Go.Shelf Go.RowKit
theorem pl105 : Places prog 105 #[(0, 3), (3, 1), (4, 1), (5, 1)] [.raw (.slice none 0 0), .raw (.slice none 0 0), .raw (.slice none 0 0), .raw (.pointer none), .raw (.slice none 0 0), .raw (.slice none 0 0)] := ⟨_, _, underlying105, zeroValue105, fun w => by kernel_rfl, rfl⟩
variable {E : World}
set_option maxRecDepth 20000
theorem indexZ_spec (xs : List Int) (v : Int) (hl : xs.length ≤ 281474976710656) : AFun prog E 99 [.fro 1 (xs.map encI), .int .i64 v] (.int .i64 (firstI (fun x => decide (v = x)) xs 0)) := by
 refine zl func99 rfl (by decide) rfl<|zSr<|z2 (zAi rfl)<|z6<|za<|zSr<|z2 (zMf rfl)<|z2 (zq underlying23 rfl)<|z2 (zMi rfl)<|z6<|zd<|y1 (γ := Nat) [0, 1, 7] (fun k => [(8, .int .i64 k)]) (fun k => []) (fun k => k ≤ xs.length ∧ (xs.take k).all (fun x => !decide (v = x))) (fun k => xs.length - k) 0 zR1 zLe (⟨qf _, rfl⟩) ?_
 rintro k ⟨hk, hall⟩
 refine zSr<|z2 (y7 rfl rfl)<|z6<|za<|zt rfl (fun ck=>?_) (fun ck=>?_)
 ·have hk2 : k < xs.length := by simp at ck; omega
  refine ze<|za<|zd<|zSr<|z2 (zMi rfl)<|z2 (zAi rfl)<|z6<|zSr<|z2 (zMi rfl)<|z2 (zMf rfl)<|z2 (zMi rfl)<|z2 (zIM k underlying23 sizeOf3 rfl rfl rfl (qc hk2))<|z2 (zLi isAgg3 rfl)<|z2 (y6 rfl rfl)<|z6<|zr rfl (fun cp=>?_) (fun cp=>?_)
  ·refine zSr<|z2 (zMi rfl)<|z2 (zAi rfl)<|z6<|zg<|zj (x := .int _ _) rfl ?_
   rw [firstI_drop _ xs k hk hall, List.drop_eq_getElem_cons hk2, firstI, if_pos (by simpa using cp)]
  ·refine ze<|zRg<|z2 (zAd rfl rfl)<|z2 (zMi rfl)<|z6 ?_
   exact ⟨k + 1, zR3, zR1, zLe, ⟨hk2, by rw [qd hk2, List.all_append, hall]; simpa using cp⟩, by omega⟩
 ·have hkn : k = xs.length := by simp at ck; omega
  refine zz<|zSr<|z2 (zAi rfl)<|z6<|zg<|zj (x := .int _ _) rfl ?_
  rw [firstI_drop _ xs k hk hall, hkn, List.drop_length, firstI]
theorem containsZ_spec (xs : List Int) (v : Int) (hl : xs.length ≤ 281474976710656) : AFun prog E 51 [.fro 1 (xs.map encI), .int .i64 v] (.bool (xs.contains v)) := by
 refine zl func51 rfl (by decide) rfl<|zSr<|z2 (zAb rfl)<|z6<|zSr<|z2 (zMf rfl)<|z2 (zMi rfl)<|zc (indexZ_spec xs v hl) rfl<|z2 (yz rfl rfl)<|z2 (zAb rfl)<|z6<|zg<|zj (x := .bool _) rfl ?_
 rw [firstI_ge]; congr 1; rw [ql]; simp
def pureB (op : Int) : Bool := isOp op && (!(decide (18 ≤ op) && decide (op ≤ 24)) && (!decide (op = 14) && (!decide (op = 17) && !decide (op = 15))))
theorem chkOp_spec (op : Int) : AFun prog E 96 [.int .i64 op] (.bool (decide (18 ≤ op) && decide (op ≤ 24))) := by
 refine zl func96 rfl (by decide) rfl<|zSr<|z2 (zAb rfl)<|z6<|zSr<|z2 (zMi rfl)<|z2 (yz rfl rfl)<|z2 (zMb rfl)<|zn (s := 5) rfl (fun c1=>?_) (fun c1=>?_)
 ·refine z8 rfl rfl c1<|z2 (zMi rfl)<|z8 rfl rfl c1<|z2 (Gv.leq rfl rfl)<|z2 (zPt rfl c1 rfl)<|z2 (zAb rfl)<|z6<|zg<|zj (x := .bool _) rfl ?_
  exact jb (by simp_all <;> omega)
 ·refine z7 rfl rfl c1<|z7 rfl rfl c1<|z2 (zPf rfl c1 rfl)<|z2 (zAb rfl)<|z6<|zg<|zj (x := .bool _) rfl ?_
  exact jb (by simp_all <;> omega)
theorem pureOp_spec (op : Int) : AFun prog E 95 [.int .i64 op] (.bool (pureB op)) := by
 refine zl func95 rfl (by decide) rfl<|zSr<|z2 (zAb rfl)<|z6<|zSr<|z2 (zMi rfl)<|zc (is_spec op) rfl<|z2 (zMb rfl)<|zn (s := 5) rfl (fun c2=>?_) (fun c2=>?_)
 ·refine z8 rfl rfl c2<|z2 (zMi rfl)<|z8 rfl rfl c2<|zc (chkOp_spec op) rfl<|z8 rfl rfl c2<|z2 (yc rfl)<|z2 (zPt rfl c2 rfl)<|z2 (zMb rfl)<|zn (s := 10) rfl (fun c3=>?_) (fun c3=>?_)
  ·refine z8 rfl rfl c3<|z2 (zMi rfl)<|z8 rfl rfl c3<|z2 (ya rfl rfl)<|z2 (zPt rfl c3 rfl)<|z2 (zMb rfl)<|zn (s := 14) rfl (fun c4=>?_) (fun c4=>?_)
   ·refine z8 rfl rfl c4<|z2 (zMi rfl)<|z8 rfl rfl c4<|z2 (ya rfl rfl)<|z2 (zPt rfl c4 rfl)<|z2 (zMb rfl)<|zn (s := 18) rfl (fun c5=>?_) (fun c5=>?_)
    ·refine z8 rfl rfl c5<|z2 (zMi rfl)<|z8 rfl rfl c5<|z2 (ya rfl rfl)<|z2 (zPt rfl c5 rfl)<|z2 (zAb rfl)<|z6<|zg<|zj (x := .bool _) rfl ?_
     exact jb (by unfold pureB; simp_all)
    ·refine z7 rfl rfl c5<|z7 rfl rfl c5<|z2 (zPf rfl c5 rfl)<|z2 (zAb rfl)<|z6<|zg<|zj (x := .bool _) rfl ?_
     exact jb (by unfold pureB; simp_all)
   ·refine z7 rfl rfl c4<|z7 rfl rfl c4<|z2 (zPf rfl c4 rfl)<|z2 (zMb rfl)<|z7 rfl rfl rfl<|z7 rfl rfl rfl<|z2 (zPf rfl rfl rfl)<|z2 (zAb rfl)<|z6<|zg<|zj (x := .bool _) rfl ?_
    exact jb (by unfold pureB; simp_all)
  ·refine z7 rfl rfl c3<|z7 rfl rfl c3<|z2 (zPf rfl c3 rfl)<|z2 (zMb rfl)<|z7 rfl rfl rfl<|z7 rfl rfl rfl<|z2 (zPf rfl rfl rfl)<|z2 (zMb rfl)<|z7 rfl rfl rfl<|z7 rfl rfl rfl<|z2 (zPf rfl rfl rfl)<|z2 (zAb rfl)<|z6<|zg<|zj (x := .bool _) rfl ?_
   exact jb (by unfold pureB; simp_all)
 ·refine z7 rfl rfl c2<|z7 rfl rfl c2<|z7 rfl rfl c2<|z2 (zPf rfl c2 rfl)<|z2 (zMb rfl)<|z7 rfl rfl rfl<|z7 rfl rfl rfl<|z2 (zPf rfl rfl rfl)<|z2 (zMb rfl)<|z7 rfl rfl rfl<|z7 rfl rfl rfl<|z2 (zPf rfl rfl rfl)<|z2 (zMb rfl)<|z7 rfl rfl rfl<|z7 rfl rfl rfl<|z2 (zPf rfl rfl rfl)<|z2 (zAb rfl)<|z6<|zg<|zj (x := .bool _) rfl ?_
  exact jb (by unfold pureB; simp_all)
theorem pfirst1_spec (x : PInst) (hx : 0 ≤ x.op ∧ x.op ≤ 26) : AFun prog E 94 ([.agg (encInst x)] ++ []) (.bool (stopB x.op)) := by
 have h : stopB x.op = (!pureB x.op && !decide (x.op = 14)) := by
  unfold stopB pureB isOp
  rw [ql]
  simp only [Bool.or_eq_true, qp, Bool.not_eq_true', Bool.and_eq_false_iff, Bool.not_eq_false', qr, decide_eq_false_iff_not]
  omega
 rw [h]
 refine zl func94 rfl (by decide) rfl<|zSr<|y4 (cs := _) rfl rfl rfl<|z2 (zAb rfl)<|z6<|zSr<|z2 (zFF underlying33 rfl sizeOf31 rfl rfl)<|z2 (zLi isAgg31 rfl)<|zc (pureOp_spec x.op) rfl<|z2 (yc rfl)<|z2 (zMb rfl)<|zn (s := 7) rfl (fun c6=>?_) (fun c6=>?_)
 ·refine z8 rfl rfl c6<|z2 (zFF underlying33 rfl sizeOf31 rfl rfl)<|z8 rfl rfl c6<|z2 (zLi isAgg31 rfl)<|z8 rfl rfl c6<|z2 (ya rfl rfl)<|z2 (zPt rfl c6 rfl)<|z2 (zAb rfl)<|z6<|zg<|zj (x := .bool _) rfl ?_
  exact jb (by simp_all)
 ·refine z7 rfl rfl c6<|z7 rfl rfl c6<|z7 rfl rfl c6<|z2 (zPf rfl c6 rfl)<|z2 (zAb rfl)<|z6<|zg<|zj (x := .bool _) rfl ?_
  exact jb (by simp_all)
def plB (f : PFunc) : Bool := typedB f && (singB f && plainB f)
def workL (f : PFunc) : List AV := encF f ++ [treeT f, .fro 2 ((makersT f).map eP.row), froN eI (predsR f f.blocks.length)]
theorem plook_ok (f : PFunc) (hf : small f) (hL : Letters E) (h : plB f = true) : AFun prog E 49 [.agg (encF f)] (.tup [.pf (workL f), .int .i64 0]) := by
 have hP := SingPlain_spec (E := E) f hf hL
 unfold plB at h
 rw [h] at hP
 have ht := (and3 h).1
 refine zl func49 rfl (by decide) rfl<|zSr<|y4 (cs := _) rfl rfl rfl<|z2 (zAr rfl)<|z2 (zAi rfl)<|z6<|za<|zSr<|z2 (zk isAgg26 sizeOf26 rfl rfl)<|zc (hP) rfl<|z2 (zAi rfl)<|z6<|zSr<|z2 (zMi rfl)<|z2 (ya rfl rfl)<|z6<|yb rfl rfl<|ze<|zSr<|z2 (zk isAgg26 sizeOf26 rfl rfl)<|zc (New_spec f hf hL ht) rfl<|z2 (zMu rfl)<|z2 (q9 (v := .pf _) rfl rfl)<|z2 (zXi rfl rfl)<|z2 (yv (v := .pf _) rfl)<|z2 (zAi rfl)<|z6<|za<|zSr<|z2 (zMi rfl)<|z2 (ya rfl rfl)<|z6<|yb rfl rfl<|ze<|za<|y8 (fun j => false) (by kernel_rfl) rfl (zx (.rest _))<|zTk 0 rfl (zk isAgg26 sizeOf26 rfl rfl)<|zTk 1 rfl (zMg rfl)<|zTk 2 rfl (zk isAgg26 sizeOf26 rfl rfl)<|zTk 4 rfl (zk isAgg26 sizeOf26 rfl rfl)<|zOn 3 rfl ?_
 refine zc (Makers_spec f hf hL ht) rfl<|z6<|zOn 5 rfl<|zc (predsX_spec f hf hL ht) rfl<|z6<|zTk 6 rfl (zu (cps := [(0, [_, _, _]), (1, [_]), (2, [_]), (3, [_])]) (rs := [_, _, _, _, _, _]) pl105 rfl rfl rfl)<|zOn 7 rfl<|y4 (cs := _) rfl rfl rfl<|z6<|zTk 8 rfl (yv (v := .pf _) rfl)<|zTk 9 rfl (zAi rfl)<|zDn<|zg<|afin.t2 (x := .pf _) (y := .int _ _) rfl rfl ?_
 rfl
theorem plook_bad (f : PFunc) (hf : small f) (hL : Letters E) (h : plB f = false) : AFun prog E 49 [.agg (encF f)] (.tup [.raw (.pointer none), .int .i64 3]) := by
 have hP := SingPlain_spec (E := E) f hf hL
 unfold plB at h
 rw [h] at hP
 refine zl func49 rfl (by decide) rfl<|zSr<|y4 (cs := _) rfl rfl rfl<|z2 (zAr rfl)<|z2 (zAi rfl)<|z6<|za<|zSr<|z2 (zk isAgg26 sizeOf26 rfl rfl)<|zc (hP) rfl<|z2 (zAi rfl)<|z6<|zSr<|z2 (zMi rfl)<|z2 (ya rfl rfl)<|z6<|yg rfl rfl<|zSr<|z2 (zMi rfl)<|z2 (zAr rfl)<|z2 (zAi rfl)<|z6<|zg<|afin.t2 (x := .raw _) (y := .int _ _) rfl rfl ?_
 rfl
theorem pfirst2_spec (f : PFunc) (b v : Int) (hv : hasV f v = true) : AFun prog E 97 ([.int .i64 v] ++ [.pf [.pf (workL f)], .pf [.int .i64 b]]) (.bool (ownB f b v)) := by
 obtain ⟨hv0, hvg⟩ := makers_idx hv
 refine zl func97 rfl (by decide) rfl<|zSr<|z2 (zAb rfl)<|z6<|za<|y8 (fun j => false) (by kernel_rfl) rfl (zx (.rest _))<|zTk 0 rfl (yw (c := .pf _) isAgg96 rfl)<|zTk 1 rfl (yn rfl)<|zTk 2 rfl (zFF underlying105 rfl sizeOf102 rfl rfl)<|zTk 3 rfl (zLf isAgg102 rfl)<|zTk 4 rfl (zMi rfl)<|zTk 5 rfl (zIM v.toNat underlying102 sizeOf109 rfl rfl (by omega) hvg)<|zTk 6 rfl (zFF underlying109 rfl sizeOf3 rfl rfl)<|zTk 7 rfl (zLi isAgg3 rfl)<|zTk 8 rfl (zLi isAgg3 rfl)<|zTk 9 rfl (y6 rfl rfl)<|zTk 10 rfl (zMb rfl)<|qb (s := 15) rfl (fun c=>?_) (fun c=>?_)
 ·refine zTt 11 rfl rfl rfl c (yw (c := .pf _) isAgg96 rfl)<|zTt 12 rfl rfl rfl c (yn rfl)<|zTt 13 rfl rfl rfl c (zFF underlying105 rfl sizeOf102 rfl rfl)<|zTt 14 rfl rfl rfl c (zLf isAgg102 rfl)<|zTt 15 rfl rfl rfl c (zMi rfl)<|zTt 16 rfl rfl rfl c (zIM v.toNat underlying102 sizeOf109 rfl rfl (by omega) hvg)<|zTt 17 rfl rfl rfl c (zFF underlying109 rfl sizeOf3 rfl rfl)<|zTt 18 rfl rfl rfl c (zLi isAgg3 rfl)<|zTt 19 rfl rfl rfl c (yz rfl rfl)<|zTk 20 rfl (zPt rfl c rfl)<|zTk 21 rfl (zAb rfl)<|zDn<|zg<|zj (x := .bool _) rfl ?_
  exact jb (by unfold ownB; simp_all)
 ·refine zTf 11 rfl rfl rfl c<|zTf 12 rfl rfl rfl c<|zTf 13 rfl rfl rfl c<|zTf 14 rfl rfl rfl c<|zTf 15 rfl rfl rfl c<|zTf 16 rfl rfl rfl c<|zTf 17 rfl rfl rfl c<|zTf 18 rfl rfl rfl c<|zTf 19 rfl rfl rfl c<|zTk 20 rfl (zPf rfl c rfl)<|zTk 21 rfl (zAb rfl)<|zDn<|zg<|zj (x := .bool _) rfl ?_
  exact jb (by unfold ownB; simp_all)
theorem inst_rng {f : PFunc} {x : PInst} (h : InstP f x) : 0 ≤ x.op ∧ x.op ≤ 26 := ⟨h.1, h.2.1⟩
theorem inTo_len {f : PFunc} (hf : small f) (b : Int) : (inTo f b).length ≤ 2000 := by
 have h1 := predsT_len f b f.blocks.length
 have h2 := hf.2.2.1
 unfold inTo; omega
theorem ndT {p : Prop} [Decidable p] (h : (!decide p) = true) : ¬ p := fun hp => by rw [qn hp] at h; cases h
theorem ndF {p : Prop} [Decidable p] (h : (!decide p) = false) : p := Classical.byContradiction fun hp => by rw [qo hp] at h; cases h
theorem firstI_rng {α : Type} (p : α → Bool) (xs : List α) (k : Nat) : firstI p xs k = -1 ∨ (k ≤ firstI p xs k ∧ firstI p xs k < k + xs.length) := by
 induction xs generalizing k with
 | nil => exact .inl rfl
 | cons x xs ih =>
  unfold firstI
  split
  ·right; simp; omega
  ·rcases ih (k + 1) with h | h
   ·exact .inl h
   ·right; simp; omega
theorem pfirst_spec (f : PFunc) (hf : small f) (hS : ShapedP f) (b : Int) : AFun prog E 50 [.pf (workL f), .int .i64 b] (.tup [.int .i64 (max (firstF f b) 0), .bool (decide (0 ≤ firstF f b))]) := by
 have hn := hf.2.2.1
 have hpl := inTo_len hf b
 refine zl func50 rfl (by decide) rfl<|zSr<|y4 (cs := [_]) rfl rfl rfl<|y4 (cs := [_]) rfl rfl rfl<|z2 (zAi rfl)<|z2 (zAb rfl)<|z6<|za<|za<|yh (γ := Bool) [2, 3] (fun u => [(41, .bool u)]) (fun u => []) (fun u => u = !decide ((0 ≤ b ∧ b < f.blocks.length) ∧ mayB f b = true)) ?_ (fun _ _ h => h) ?_
 ·refine y8 (fun j => false) (by kernel_rfl) rfl (zx (.rest _))<|zTk 0 rfl (zLi isAgg3 rfl)<|zTk 1 rfl (y7 rfl rfl)<|zTk 2 rfl (zMb rfl)<|qb (s := 11) rfl (fun c1=>?_) (fun c1=>?_)
  ·refine zTf 3 rfl rfl rfl c1<|zTf 4 rfl rfl rfl c1<|zTf 5 rfl rfl rfl c1<|zTf 6 rfl rfl rfl c1<|zTf 7 rfl rfl rfl c1<|zTf 8 rfl rfl rfl c1<|zTf 9 rfl rfl rfl c1<|zTk 10 rfl (zPt rfl c1 rfl)<|zTk 11 rfl (zMb rfl)<|zTf 12 rfl rfl rfl rfl<|zTf 13 rfl rfl rfl rfl<|zTf 14 rfl rfl rfl rfl<|zTf 15 rfl rfl rfl rfl<|zTf 16 rfl rfl rfl rfl<|zTf 17 rfl rfl rfl rfl<|zTf 18 rfl rfl rfl rfl<|zTf 19 rfl rfl rfl rfl<|zTf 20 rfl rfl rfl rfl<|zTk 21 rfl (zPt rfl rfl rfl)<|zTk 22 rfl (zMb rfl)<|zTf 23 rfl rfl rfl rfl<|zTf 24 rfl rfl rfl rfl<|zTf 25 rfl rfl rfl rfl<|zTf 26 rfl rfl rfl rfl<|zTf 27 rfl rfl rfl rfl<|zTf 28 rfl rfl rfl rfl<|zTf 29 rfl rfl rfl rfl<|zTf 30 rfl rfl rfl rfl<|zTf 31 rfl rfl rfl rfl<|zTk 32 rfl (zPt rfl rfl rfl)<|zDn ?_
   exact ⟨_, zR2, zR1, zLe, by have h : b < 0 := (by simpa using c1); simp; omega⟩
  ·refine zTt 3 rfl rfl rfl c1 (zLi isAgg3 rfl)<|zTt 4 rfl rfl rfl c1 (yw (c := .pf _) isAgg96 rfl)<|zTt 5 rfl rfl rfl c1 (yn rfl)<|zTt 6 rfl rfl rfl c1 (zFF underlying105 rfl sizeOf103 rfl rfl)<|zTt 7 rfl rfl rfl c1 (zLf isAgg103 rfl)<|zTt 8 rfl rfl rfl c1 (zq underlying103 rfl)<|zTt 9 rfl rfl rfl c1 (yz rfl rfl)<|zTk 10 rfl (zPf rfl c1 rfl)<|zTk 11 rfl (zMb rfl)<|qb (s := 20) rfl (fun c2=>?_) (fun c2=>?_)
   ·refine zTf 12 rfl rfl rfl c2<|zTf 13 rfl rfl rfl c2<|zTf 14 rfl rfl rfl c2<|zTf 15 rfl rfl rfl c2<|zTf 16 rfl rfl rfl c2<|zTf 17 rfl rfl rfl c2<|zTf 18 rfl rfl rfl c2<|zTf 19 rfl rfl rfl c2<|zTf 20 rfl rfl rfl c2<|zTk 21 rfl (zPt rfl c2 rfl)<|zTk 22 rfl (zMb rfl)<|zTf 23 rfl rfl rfl rfl<|zTf 24 rfl rfl rfl rfl<|zTf 25 rfl rfl rfl rfl<|zTf 26 rfl rfl rfl rfl<|zTf 27 rfl rfl rfl rfl<|zTf 28 rfl rfl rfl rfl<|zTf 29 rfl rfl rfl rfl<|zTf 30 rfl rfl rfl rfl<|zTf 31 rfl rfl rfl rfl<|zTk 32 rfl (zPt rfl rfl rfl)<|zDn ?_
    exact ⟨_, zR2, zR1, zLe, by have h : (f.blocks.length : Int) ≤ b := (by simpa [predsR_len] using c2); simp; omega⟩
   ·have h1 : ¬ b < 0 := by simpa using c1
    have h2 : ¬ (f.blocks.length : Int) ≤ b := by simpa [predsR_len] using c2
    have hrow : (predsR f f.blocks.length)[b.toNat]? = some (inTo f b) := by have := predsR_row f (k := b.toNat) (by omega); rwa [show ((b.toNat : Nat) : Int) = b by omega] at this
    refine zTt 12 rfl rfl rfl c2 (yw (c := .pf _) isAgg96 rfl)<|zTt 13 rfl rfl rfl c2 (yn rfl)<|zTt 14 rfl rfl rfl c2 (zFF underlying105 rfl sizeOf103 rfl rfl)<|zTt 15 rfl rfl rfl c2 (zLf isAgg103 rfl)<|zTt 16 rfl rfl rfl c2 (zLi isAgg3 rfl)<|zTt 17 rfl rfl rfl c2 (zIM b.toNat underlying103 sizeOf23 rfl rfl (by omega) hrow)<|zTt 18 rfl rfl rfl c2 (zLf isAgg23 rfl)<|zTt 19 rfl rfl rfl c2 (zq underlying23 rfl)<|zTt 20 rfl rfl rfl c2 (y7 rfl rfl)<|zTk 21 rfl (zPf rfl c2 rfl)<|zTk 22 rfl (zMb rfl)<|qb (s := 31) rfl (fun c3=>?_) (fun c3=>?_)
    ·refine zTf 23 rfl rfl rfl c3<|zTf 24 rfl rfl rfl c3<|zTf 25 rfl rfl rfl c3<|zTf 26 rfl rfl rfl c3<|zTf 27 rfl rfl rfl c3<|zTf 28 rfl rfl rfl c3<|zTf 29 rfl rfl rfl c3<|zTf 30 rfl rfl rfl c3<|zTf 31 rfl rfl rfl c3<|zTk 32 rfl (zPt rfl c3 rfl)<|zDn ?_
     exact ⟨_, zR2, zR1, zLe, by have h : (inTo f b).length < 2 := (by have h0 : ((inTo f b).length : Int) < 2 := (by simpa using c3); omega); unfold mayB; simp; omega⟩
    ·refine zTt 23 rfl rfl rfl c3 (yw (c := .pf _) isAgg96 rfl)<|zTt 24 rfl rfl rfl c3 (yn rfl)<|zTt 25 rfl rfl rfl c3 (zFF underlying105 rfl sizeOf103 rfl rfl)<|zTt 26 rfl rfl rfl c3 (zLf isAgg103 rfl)<|zTt 27 rfl rfl rfl c3 (zLi isAgg3 rfl)<|zTt 28 rfl rfl rfl c3 (zIM b.toNat underlying103 sizeOf23 rfl rfl (by omega) hrow)<|zTt 29 rfl rfl rfl c3 (zLf isAgg23 rfl)<|zTt 30 rfl rfl rfl c3 (zLi isAgg3 rfl)<|zOn 31 rfl<|z8 rfl rfl c3<|zc (containsZ_spec (inTo f b) b (by omega)) rfl<|z6<|zTk 32 rfl (zPf rfl c3 rfl)<|zDn ?_
     exact ⟨_, zR2, zR1, zLe, by have h : ¬ (inTo f b).length < 2 := (by have h0 : ¬ ((inTo f b).length : Int) < 2 := (by simpa using c3); omega); have e : mayB f b = !(inTo f b).contains b := (by unfold mayB; rw [qn (by omega)]; rfl); rw [show decide ((0 ≤ b ∧ b < f.blocks.length) ∧ mayB f b = true) = mayB f b from (by rw [ql, qr]; exact ⟨fun h => h.2, fun h => ⟨⟨by omega, by omega⟩, h⟩⟩), e, Bool.not_not]⟩
 ·rintro u hu
  subst hu
  refine zr rfl (fun c=>?_) (fun c=>?_)
  ·have hc := ndT c
   have hF : firstF f b = -1 := by unfold firstF; rw [if_neg hc]
   rw [hF]
   refine zSr<|z2 (zAi rfl)<|z2 (zAb rfl)<|z6<|zg<|afin.t2 (x := .int _ _) (y := .bool _) rfl rfl ?_
   rfl
  ·have hc := ndF c
   obtain ⟨⟨h0, h1⟩, hm⟩ := hc
   obtain ⟨k, rfl⟩ : ∃ k : Nat, b = (k : Int) := ⟨b.toNat, by omega⟩
   have hk : k < f.blocks.length := by omega
   obtain ⟨B, hB⟩ : ∃ B, f.blocks[k] = B := ⟨_, rfl⟩
   have hget : f.blocks[k]? = some B := by rw [qc hk, hB]
   have hmem : B ∈ f.blocks := hB ▸ qg hk
   obtain ⟨hb0, hb1, hb2, hb3, hb4⟩ := hf.2.2.2.2 B hmem
   obtain ⟨hPh, hIn, hTm⟩ := hS.2.2.2.2.2 B hmem
   have hI : instsAt f (k : Int) = B.insts := by unfold instsAt; rw [show ((k : Int)).toNat = k from rfl, hget]; rfl
   have hF : firstF f (k : Int) = firstJ f (k : Int) (firstI (fun x => stopB x.op) B.insts 0) := by unfold firstF; rw [if_pos ⟨⟨h0, h1⟩, hm⟩, hI]
   rw [hF]
   obtain ⟨i, hi⟩ : ∃ i, firstI (fun x : PInst => stopB x.op) B.insts 0 = i := ⟨_, rfl⟩
   have hrng := firstI_rng (fun x : PInst => stopB x.op) B.insts 0
   rw [hi] at hrng ⊢
   refine ze<|za<|y8 (fun j => false) (by kernel_rfl) rfl (zx (.rest _))<|zTk 0 rfl (yw (c := .pf _) isAgg96 rfl)<|zTk 1 rfl (yn rfl)<|zTk 2 rfl (zFF underlying105 rfl sizeOf26 rfl rfl)<|zTk 3 rfl (zFF underlying26 rfl sizeOf24 rfl rfl)<|zTk 4 rfl (zLf isAgg24 rfl)<|zTk 5 rfl (zLi isAgg3 rfl)<|zTk 6 rfl (zIM k underlying24 sizeOf66 rfl rfl rfl hget)<|zTk 7 rfl (zFF underlying66 rfl sizeOf60 rfl rfl)<|zTk 8 rfl (zLf isAgg60 rfl)<|zTk 9 rfl (zAf rfl)<|zDn<|zSr<|z2 (zMf rfl)<|zc ((hi ▸ indexFuncX_spec B.insts (by omega) (fun x hx => pfirst1_spec x (inst_rng (hIn x hx))))) rfl<|z2 (zAi rfl)<|z6<|za<|zSr<|z2 (zMi rfl)<|z2 (y7 rfl rfl)<|z2 (zMb rfl)<|zn (s := 55) rfl (fun c2=>?_) (fun c2=>?_)
   ·have h2 : i < 0 := by simpa using c2
    refine z7 rfl rfl c2<|z7 rfl rfl c2<|z7 rfl rfl c2<|z7 rfl rfl c2<|z7 rfl rfl c2<|z7 rfl rfl c2<|z7 rfl rfl c2<|z2 (zPt rfl c2 rfl)<|z6<|yg rfl rfl<|zSr<|z2 (zAi rfl)<|z2 (zAb rfl)<|z6<|zg<|afin.t2 (x := .int _ _) (y := .bool _) rfl rfl ?_
    unfold firstJ; rw [if_pos h2]; rfl
   ·have h2 : ¬ i < 0 := by simpa using c2
    have hil : i.toNat < B.insts.length := by omega
    obtain ⟨x, hx⟩ : ∃ x, B.insts[i.toNat] = x := ⟨_, rfl⟩
    have hxg : B.insts[i.toNat]? = some x := by rw [qc hil, hx]
    have hxm : x ∈ B.insts := hx ▸ qg hil
    have hO : instOf f (k : Int) i = x := by unfold instOf; rw [hI, hxg]; rfl
    have hal := hb4 x hxm
    have hIF := instP_F (hIn x hxm)
    refine z8 rfl rfl c2<|z2 (zMf rfl)<|z8 rfl rfl c2<|z2 (zMi rfl)<|z8 rfl rfl c2<|z2 (zIM i.toNat underlying60 sizeOf33 rfl rfl (by omega) hxg)<|z8 rfl rfl c2<|z2 (zFF underlying33 rfl sizeOf31 rfl rfl)<|z8 rfl rfl c2<|z2 (zLi isAgg31 rfl)<|z8 rfl rfl c2<|zc (chkOp_spec x.op) rfl<|z8 rfl rfl c2<|z2 (yc rfl)<|z2 (zPf rfl c2 rfl)<|z6<|zr rfl (fun c3=>?_) (fun c3=>?_)
    ·have h3 : ¬ (18 ≤ x.op ∧ x.op ≤ 24) := by intro h; rw [qn h.1, qn h.2] at c3; cases c3
     refine zSr<|z2 (zAi rfl)<|z2 (zAb rfl)<|z6<|zg<|afin.t2 (x := .int _ _) (y := .bool _) rfl rfl ?_
     unfold firstJ; rw [if_neg h2, hO, if_neg (fun h => h3 h.1)]; rfl
    ·have h3 : 18 ≤ x.op ∧ x.op ≤ 24 := by simpa using c3
     refine ze<|zSr<|z2 (Gv.func rfl rfl)<|z2 (yv (v := .fn _ _ _) rfl)<|z6<|za<|zSr<|z2 (zMf rfl)<|z2 (zMi rfl)<|z2 (zIM i.toNat underlying60 sizeOf33 rfl rfl (by omega) hxg)<|z2 (zFF underlying33 rfl sizeOf23 rfl rfl)<|z2 (zLf isAgg23 rfl)<|z2 (yl (v := .fn _ _ _) rfl)<|zc (containsFuncM_spec x.args (by omega) (fun v hv => pfirst2_spec f (k : Int) v (hIF.args v hv))) rfl<|z6<|zr rfl (fun c4=>?_) (fun c4=>?_)
     ·refine zSr<|z2 (zAi rfl)<|z2 (zAb rfl)<|z6<|zg<|afin.t2 (x := .int _ _) (y := .bool _) rfl rfl ?_
      unfold firstJ; rw [if_neg h2, hO, if_neg (fun h => by rw [h.2] at c4; cases c4)]; rfl
     ·refine ze<|zSr<|z2 (zMi rfl)<|z2 (zAi rfl)<|z2 (zAb rfl)<|z6<|zg<|afin.t2 (x := .int _ _) (y := .bool _) rfl rfl ?_
      unfold firstJ; rw [if_neg h2, hO, if_pos ⟨h3, by simpa using c4⟩, Int.max_eq_left (by omega), qn (by omega)]
end Go.Proofs.YtjnpcfpecilejaaGreatDoor
