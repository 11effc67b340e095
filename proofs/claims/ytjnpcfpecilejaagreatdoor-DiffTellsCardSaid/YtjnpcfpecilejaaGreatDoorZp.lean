/- A table of edges, read. Of programs that are little. -/
import Derived.Test.YtjnpcfpecilejaaGreatDoorZn
import Derived.Test.YtjnpcfpecilejaaGreatDoorZg
import Derived.Test.YtjnpcfpecilejaaGreatDoorZo
import Derived.Test.YtjnpcfpecilejaaGreatDoorZc
set_option linter.unusedVariables false
set_option linter.unusedSimpArgs false
set_option linter.unusedSectionVars false
namespace Go.Proofs.YtjnpcfpecilejaaGreatDoor
open Go.Proofs.Tryz
open Go.Proofs Go.Lib Go.Shelf Go.RowKit
set_option maxRecDepth 20000
variable {E : World}
theorem sum_take {α : Type} (g : α → Nat) : ∀ (l : List α) (k : Nat), ((l.take k).map g).sum ≤ (l.map g).sum
 | [], k => by simp
 | x :: l, 0 => by simp
 | x :: l, k + 1 => by
  have := sum_take g l k
  simp only [List.take_succ_cons, List.map_cons, List.sum_cons]; omega
theorem wP_take (l : List PPhi) (k : Nat) : wP (l.take k) ≤ wP l := sum_take _ l k
theorem wX_take (l : List PInst) (k : Nat) : wX (l.take k) ≤ wX l := sum_take _ l k
theorem little_le {f : PFunc} (h : little f) {k : Nat} (hk : k < f.blocks.length) : wV f.vars + wBs (f.blocks.take k) + wB f.blocks[k] ≤ 4000 := by
 have h1 := h.2.2.2.2.2 (fun e => by rw [e] at hk; exact absurd hk (Nat.not_lt_zero _))
 have h2 : wBs (f.blocks.take (k + 1)) ≤ wBs f.blocks := sum_take _ f.blocks (k + 1)
 rw [wBs_succ hk] at h2
 omega
set_option maxHeartbeats 8000000 in
theorem fewIff_spec (f : PFunc) (hf : wFunc f) : ACall Tryz.prog E 12 [.agg (encF f)] [] (fun x _ => ∃ b : Bool, x = .bool b ∧ (b = true ↔ little f)) := by
 obtain ⟨hf1, hf2, hf3, hf4⟩ := hf
 have hl1 := hf1.lt
 have hl3 := hf3.lt
 refine zp func12 rfl (by decide) rfl<|zb<|z8 rfl<|yc (cs := _) rfl rfl rfl<|z2 (zAb rfl)<|z6<|zb<|zb<|yk (γ := Unit) [1] (fun u => [(27, .bool (few1 f))]) (fun u => []) (fun u => True) ?_ (fun _ _ h => h) ?_
 ·refine z8 rfl<|z2 (zc underlying26 rfl sizeOf22 (by decide) rfl rfl)<|z2 (zLf isAgg22 rfl)<|z2 (y5 underlying22 rfl)<|z2 (yv rfl rfl)<|z2 (zMb rfl)<|zm (s := 16) rfl (fun c1 => ?_) (fun c1 => ?_)
  ·refine z7 rfl rfl c1<|z7 rfl rfl c1<|z7 rfl rfl c1<|z7 rfl rfl c1<|z2 (zPt rfl c1 rfl)<|z2 (zMb rfl)<|z7 rfl rfl rfl<|z7 rfl rfl rfl<|z7 rfl rfl rfl<|z7 rfl rfl rfl<|z2 (zPt rfl rfl rfl)<|z6 ?_
   exact ⟨(), zR1, ⟨jb (by simp_all [few1] <;> grind), trivial⟩, zLe, trivial⟩
  ·refine za rfl rfl c1<|z2 (zc underlying26 rfl sizeOf24 (by decide) rfl rfl)<|za rfl rfl c1<|z2 (zLf isAgg24 rfl)<|za rfl rfl c1<|z2 (y5 underlying24 rfl)<|za rfl rfl c1<|z2 (yv rfl rfl)<|z2 (zPf rfl c1 rfl)<|z2 (zMb rfl)<|zm (s := 22) rfl (fun c2 => ?_) (fun c2 => ?_)
   ·refine z7 rfl rfl c2<|z7 rfl rfl c2<|z7 rfl rfl c2<|z7 rfl rfl c2<|z2 (zPt rfl c2 rfl)<|z6 ?_
    exact ⟨(), zR1, ⟨jb (by simp_all [few1] <;> grind), trivial⟩, zLe, trivial⟩
   ·refine za rfl rfl c2<|z2 (zc underlying26 rfl sizeOf23 (by decide) rfl rfl)<|za rfl rfl c2<|z2 (zLf isAgg23 rfl)<|za rfl rfl c2<|z2 (y5 underlying23 rfl)<|za rfl rfl c2<|z2 (yv rfl rfl)<|z2 (zPf rfl c2 rfl)<|z6 ?_
    exact ⟨(), zR1, ⟨jb (by simp_all [few1] <;> grind), trivial⟩, zLe, trivial⟩
 ·rintro _ _
  refine zy rfl (fun c1 => ?_) (fun c1 => ?_)
  ·refine zb<|z8 rfl<|z2 (zAb rfl)<|z6<|zh<|zk (x := .bool _) rfl ?_
   exact ⟨_, rfl, fun h => (by cases h), fun hl => absurd hl (fun hl => by have h1 := hl.1; have h2 := hl.2.1; have h3 := hl.2.2.1; unfold few1 at c1; simp at c1; omega)⟩
  ·have hsz : f.vars.length ≤ 100 ∧ f.blocks.length ≤ 40 ∧ f.params.length ≤ 20 := by unfold few1 at c1; simp at c1; omega
   refine ze<|zb<|z8 rfl<|z2 (zAi rfl)<|z6<|zb<|zb<|z8 rfl<|z2 (zc underlying26 rfl sizeOf22 (by decide) rfl rfl)<|z2 (zLf isAgg22 rfl)<|z2 (y5 underlying22 rfl)<|z2 (zMi rfl)<|z6<|zi<|ya (γ := Nat) [1, 29, 30] (fun k => [(31, .int .i64 k), (3, .int .i64 (wV (f.vars.take k)))]) (fun k => []) (fun k => k ≤ f.vars.length ∧ wV (f.vars.take k) ≤ 400 * k ∧ ∀ v ∈ f.vars.take k, v.name.size ≤ 400) (fun k => f.vars.length - k) 0 zR2 zLe (⟨qi _, Nat.le_refl _, by simp⟩) ?_
   rintro k ⟨hk, hw, hv⟩
   refine zb<|z8 rfl<|z2 (ye rfl rfl)<|z6<|zb<|zr rfl (fun ck => ?_) (fun ck => ?_)
   ·have hk1 : k < f.vars.length := by omega
    have hs := wV_succ hk1
    refine ze<|zb<|zi<|zb<|z8 rfl<|z2 (y6 underlying22 sizeOf56 rfl rfl rfl (qf (by omega)))<|z2 (zn isAgg56 sizeOf56 rfl rfl)<|y9 (cs := [.str ⟨#[]⟩, .int .i64 0]) zeroValue56 rfl rfl<|fun i5 => y4 sizeOf56 rfl rfl rfl rfl rfl rfl .head rfl<|z6<|zb<|zb<|z8 rfl<|z2 (zu underlying56 rfl sizeOf9 (by decide) rfl rfl)<|z2 (zz (c := .str _) isAgg9 rfl ⟨_, .head⟩ rfl)<|z2 (Gv.lenT underlying9 rfl)<|z2 (yv rfl rfl)<|z6<|zr rfl (fun cn => ?_) (fun cn => ?_)
    ·refine zb<|z8 rfl<|z2 (zAb rfl)<|z6<|zh<|zk (x := .bool _) rfl ?_
     exact ⟨_, rfl, fun h => (by cases h), fun hl => absurd hl (fun hl => by have h1 := hl.2.2.2.1 _ (qj hk1); omega)⟩
    ·refine ze<|z8 rfl<|z2 (zMi rfl)<|z2 (zu underlying56 rfl sizeOf9 (by decide) rfl rfl)<|z2 (zz (c := .str _) isAgg9 rfl ⟨_, .head⟩ rfl)<|z2 (Gv.lenT underlying9 rfl)<|z2 (yb rfl rfl (by unfold I64; omega))<|z2 (zAi rfl)<|z6<|z8 rfl<|z2 (yb rfl rfl (by unfold I64; omega))<|z2 (zMi rfl)<|z6 ?_
     exact ⟨k + 1, zR3, ⟨rfl, congrArg (AV.int .i64) (by rw [hs]; omega), trivial⟩, ⟨_, (.drop (.refl _)), rfl⟩, ⟨hk1, by omega, forall_take hk1 hv (by omega)⟩, by omega⟩
   ·obtain rfl : k = f.vars.length := by omega
    rw [qk] at hw hv
    rw [qk]
    refine y8<|zb<|zb<|z8 rfl<|z2 (zc underlying26 rfl sizeOf24 (by decide) rfl rfl)<|z2 (zLf isAgg24 rfl)<|z2 (y5 underlying24 rfl)<|z2 (zMi rfl)<|z6<|zi<|ya (γ := Nat) [46, 47] (fun k => [(48, .int .i64 k), (3, .int .i64 (wV f.vars + wBs (f.blocks.take k) : Nat))]) (fun k => []) (fun k => k ≤ f.blocks.length ∧ (0 < k → wV f.vars + wBs (f.blocks.take k) ≤ 4000) ∧ wBs (f.blocks.take k) ≤ 4000 ∧ ∀ b ∈ f.blocks.take k, littleB b) (fun k => f.blocks.length - k) 0 zR2 zLe (⟨qi _, by omega, by simp [wBs], by simp⟩) ?_
    rintro k ⟨hk, hw2, hw3, hb⟩
    refine zb<|z8 rfl<|z2 (ye rfl rfl)<|z6<|zb<|zr rfl (fun ck => ?_) (fun ck => ?_)
    ·have hk1 : k < f.blocks.length := by omega
     obtain ⟨hb1, hb2, hb3, hb4⟩ := hf4 _ (qj hk1)
     have hs := wBs_succ hk1
     refine ze<|zb<|zi<|zb<|z8 rfl<|z2 (y6 underlying24 sizeOf66 rfl rfl rfl (qf (by omega)))<|z2 (zn isAgg66 sizeOf66 rfl rfl)<|y9 (cs := [.str ⟨#[]⟩, .raw (.slice none 0 0), .raw (.slice none 0 0), .int .i64 0, .int .i64 0, .int .i64 0, .int .i64 0]) zeroValue66 rfl rfl<|fun i7 => y4 sizeOf66 rfl rfl rfl rfl rfl rfl .head rfl<|z6<|zb<|zb<|yk (γ := Unit) [3, 7, 46, 47, 48] (fun u => [(67, .bool (few2 f.blocks[k]))]) (fun u => [(i7, .cells 66 (encBlk f.blocks[k]))]) (fun u => True) ?_ (fun _ _ h => h) ?_
     ·refine z8 rfl<|z2 (zu underlying66 rfl sizeOf9 (by decide) rfl rfl)<|z2 (zz (c := .str _) isAgg9 rfl ⟨_, .head⟩ rfl)<|z2 (Gv.lenT underlying9 rfl)<|z2 (yv rfl rfl)<|z2 (zMb rfl)<|zm (s := 56) rfl (fun c3 => ?_) (fun c3 => ?_)
      ·refine z7 rfl rfl c3<|z7 rfl rfl c3<|z7 rfl rfl c3<|z7 rfl rfl c3<|z2 (zPt rfl c3 rfl)<|z2 (zMb rfl)<|z7 rfl rfl rfl<|z7 rfl rfl rfl<|z7 rfl rfl rfl<|z7 rfl rfl rfl<|z2 (zPt rfl rfl rfl)<|z6 ?_
       exact ⟨(), zR5, ⟨jb (by simp_all [few2] <;> grind), trivial⟩, zLe, trivial⟩
      ·refine za rfl rfl c3<|z2 (zu underlying66 rfl sizeOf59 (by decide) rfl rfl)<|za rfl rfl c3<|z2 (zz (c := .fro _ _) isAgg59 rfl ⟨_, .head⟩ rfl)<|za rfl rfl c3<|z2 (y5 underlying59 rfl)<|za rfl rfl c3<|z2 (yv rfl rfl)<|z2 (zPf rfl c3 rfl)<|z2 (zMb rfl)<|zm (s := 62) rfl (fun c4 => ?_) (fun c4 => ?_)
       ·refine z7 rfl rfl c4<|z7 rfl rfl c4<|z7 rfl rfl c4<|z7 rfl rfl c4<|z2 (zPt rfl c4 rfl)<|z6 ?_
        exact ⟨(), zR5, ⟨jb (by simp_all [few2] <;> grind), trivial⟩, zLe, trivial⟩
       ·refine za rfl rfl c4<|z2 (zu underlying66 rfl sizeOf60 (by decide) rfl rfl)<|za rfl rfl c4<|z2 (zz (c := .fro _ _) isAgg60 rfl ⟨_, .head⟩ rfl)<|za rfl rfl c4<|z2 (y5 underlying60 rfl)<|za rfl rfl c4<|z2 (yv rfl rfl)<|z2 (zPf rfl c4 rfl)<|z6 ?_
        exact ⟨(), zR5, ⟨jb (by simp_all [few2] <;> grind), trivial⟩, zLe, trivial⟩
     ·rintro _ _
      refine zy rfl (fun c2 => ?_) (fun c2 => ?_)
      ·refine zb<|z8 rfl<|z2 (zAb rfl)<|z6<|zh<|zk (x := .bool _) rfl ?_
       exact ⟨_, rfl, fun h => (by cases h), fun hl => absurd hl (fun hl => by obtain ⟨h1, h2, h3, _⟩ := hl.2.2.2.2.1 _ (qj hk1); unfold few2 at c2; simp at c2; omega)⟩
      ·have hsb : f.blocks[k].name.size ≤ 400 ∧ f.blocks[k].phis.length ≤ 400 ∧ f.blocks[k].insts.length ≤ 400 := by unfold few2 at c2; simp at c2; omega
       refine ze<|zb<|z8 rfl<|z2 (zMi rfl)<|z2 (zu underlying66 rfl sizeOf9 (by decide) rfl rfl)<|z2 (zz (c := .str _) isAgg9 rfl ⟨_, .head⟩ rfl)<|z2 (Gv.lenT underlying9 rfl)<|z2 (zu underlying66 rfl sizeOf59 (by decide) rfl rfl)<|z2 (zz (c := .fro _ _) isAgg59 rfl ⟨_, .head⟩ rfl)<|z2 (y5 underlying59 rfl)<|z2 (zu underlying66 rfl sizeOf60 (by decide) rfl rfl)<|z2 (zz (c := .fro _ _) isAgg60 rfl ⟨_, .head⟩ rfl)<|z2 (y5 underlying60 rfl)<|z2 (yb rfl rfl (by unfold I64; omega))<|z2 (Gv.mul rfl rfl (by unfold I64; omega))<|z2 (yb rfl rfl (by unfold I64; omega))<|z2 (yb rfl rfl (by unfold I64; omega))<|z2 (zAi rfl)<|z6<|zb<|zb<|z8 rfl<|z2 (zu underlying66 rfl sizeOf59 (by decide) rfl rfl)<|z2 (zz (c := .fro _ _) isAgg59 rfl ⟨_, .head⟩ rfl)<|z2 (y5 underlying59 rfl)<|z2 (zMi rfl)<|z6<|zi<|ya (γ := Nat) [7, 46, 47, 48, 83, 84] (fun m => [(85, .int .i64 m), (3, .int .i64 (wV f.vars + wBs (f.blocks.take k) + (f.blocks[k].name.size + 10 * (f.blocks[k].phis.length + f.blocks[k].insts.length)) + wP (f.blocks[k].phis.take m) : Nat))]) (fun m => [(i7, .cells 66 (encBlk f.blocks[k]))]) (fun m => m ≤ f.blocks[k].phis.length ∧ wP (f.blocks[k].phis.take m) ≤ 800 * m ∧ ∀ p ∈ f.blocks[k].phis.take m, p.args.length ≤ 400 ∧ p.from_.length ≤ 400) (fun m => f.blocks[k].phis.length - m) 0 ⟨rfl, (congrArg (AV.int .i64) (by simp [wP] <;> omega)), trivial⟩ zLe (⟨qi _, by simp [wP], by simp⟩) ?_
       rintro m ⟨hm, hwp, hp⟩
       refine zb<|z8 rfl<|z2 (ye rfl rfl)<|z6<|zb<|zr rfl (fun cm => ?_) (fun cm => ?_)
       ·have hm1 : m < f.blocks[k].phis.length := by omega
        obtain ⟨hq1, hq2⟩ := hb3 _ (qj hm1)
        have hl6 := hq1.lt
        have hl7 := hq2.lt
        have hs2 := wP_succ hm1
        refine ze<|zb<|zi<|zb<|z8 rfl<|z2 (y6 underlying59 sizeOf95 rfl rfl rfl (qf (by omega)))<|z2 (zn isAgg95 sizeOf95 rfl rfl)<|y9 (cs := [.int .i64 0, .raw (.slice none 0 0), .raw (.slice none 0 0)]) zeroValue95 rfl rfl<|fun i9 => y4 sizeOf95 rfl rfl rfl rfl rfl rfl .head rfl<|z6<|zb<|zb<|yk (γ := Unit) [3, 7, 9, 46, 47, 48, 83, 84, 85] (fun u => [(102, .bool (decide ((4000 : Int) < (wV f.vars + wBs (f.blocks.take k) + (f.blocks[k].name.size + 10 * (f.blocks[k].phis.length + f.blocks[k].insts.length)) + wP (f.blocks[k].phis.take m) : Nat)) || (decide ((400 : Int) < f.blocks[k].phis[m].args.length) || decide ((400 : Int) < f.blocks[k].phis[m].from_.length))))]) (fun u => [(i9, .cells 95 (encPhi f.blocks[k].phis[m])), (i7, .cells 66 (encBlk f.blocks[k]))]) (fun u => True) ?_ (fun _ _ h => h) ?_
        ·refine z8 rfl<|z2 (zMi rfl)<|z2 (yv rfl rfl)<|z2 (zMb rfl)<|zm (s := 91) rfl (fun c5 => ?_) (fun c5 => ?_)
         ·refine z7 rfl rfl c5<|z7 rfl rfl c5<|z7 rfl rfl c5<|z7 rfl rfl c5<|z2 (zPt rfl c5 rfl)<|z2 (zMb rfl)<|z7 rfl rfl rfl<|z7 rfl rfl rfl<|z7 rfl rfl rfl<|z7 rfl rfl rfl<|z2 (zPt rfl rfl rfl)<|z6 ?_
          exact ⟨(), zR9, ⟨jb (by simp_all <;> grind), trivial⟩, zLe, trivial⟩
         ·refine za rfl rfl c5<|z2 (zu underlying95 rfl sizeOf23 (by decide) rfl rfl)<|za rfl rfl c5<|z2 (zz (c := .fro _ _) isAgg23 rfl ⟨_, .head⟩ rfl)<|za rfl rfl c5<|z2 (y5 underlying23 rfl)<|za rfl rfl c5<|z2 (yv rfl rfl)<|z2 (zPf rfl c5 rfl)<|z2 (zMb rfl)<|zm (s := 97) rfl (fun c6 => ?_) (fun c6 => ?_)
          ·refine z7 rfl rfl c6<|z7 rfl rfl c6<|z7 rfl rfl c6<|z7 rfl rfl c6<|z2 (zPt rfl c6 rfl)<|z6 ?_
           exact ⟨(), zR9, ⟨jb (by simp_all <;> grind), trivial⟩, zLe, trivial⟩
          ·refine za rfl rfl c6<|z2 (zu underlying95 rfl sizeOf23 (by decide) rfl rfl)<|za rfl rfl c6<|z2 (zz (c := .fro _ _) isAgg23 rfl ⟨_, .head⟩ rfl)<|za rfl rfl c6<|z2 (y5 underlying23 rfl)<|za rfl rfl c6<|z2 (yv rfl rfl)<|z2 (zPf rfl c6 rfl)<|z6 ?_
           exact ⟨(), zR9, ⟨jb (by simp_all <;> grind), trivial⟩, zLe, trivial⟩
        ·rintro _ _
         refine zy rfl (fun cp => ?_) (fun cp => ?_)
         ·refine zb<|z8 rfl<|z2 (zAb rfl)<|z6<|zh<|zk (x := .bool _) rfl ?_
          exact ⟨_, rfl, fun h => (by cases h), fun hl => absurd hl (fun hl => by obtain ⟨_, _, _, h4, _⟩ := hl.2.2.2.2.1 _ (qj hk1); have h5 := h4 _ (qj hm1); have h9 := little_le hl hk1; have hwb : wB f.blocks[k] = f.blocks[k].name.size + 10 * (f.blocks[k].phis.length + f.blocks[k].insts.length) + wP f.blocks[k].phis + wX f.blocks[k].insts := rfl; have h10 := wP_take f.blocks[k].phis m; simp only [Bool.or_eq_true, qt] at cp; omega)⟩
         ·rcases Bool.or_eq_false_iff.1 cp with ⟨a1, a2⟩
          rcases Bool.or_eq_false_iff.1 a2 with ⟨a3, a4⟩
          have a3 := of_decide_eq_false a3
          have a4 := of_decide_eq_false a4
          refine ze<|z8 rfl<|z2 (zMi rfl)<|z2 (zu underlying95 rfl sizeOf23 (by decide) rfl rfl)<|z2 (zz (c := .fro _ _) isAgg23 rfl ⟨_, .head⟩ rfl)<|z2 (y5 underlying23 rfl)<|z2 (zu underlying95 rfl sizeOf23 (by decide) rfl rfl)<|z2 (zz (c := .fro _ _) isAgg23 rfl ⟨_, .head⟩ rfl)<|z2 (y5 underlying23 rfl)<|z2 (yb rfl rfl (by unfold I64; omega))<|z2 (yb rfl rfl (by unfold I64; omega))<|z2 (zAi rfl)<|z6<|z8 rfl<|z2 (yb rfl rfl (by unfold I64; omega))<|z2 (zMi rfl)<|z6 ?_
          exact ⟨m + 1, zR6, ⟨rfl, congrArg (AV.int .i64) (by rw [hs2]; omega), trivial⟩, ⟨_, (.drop (.refl _)), rfl⟩, ⟨hm1, by omega, forall_take hm1 hp ⟨by omega, by omega⟩⟩, by omega⟩
       ·obtain rfl : m = f.blocks[k].phis.length := by omega
        rw [qk] at hwp hp
        rw [qk]
        refine y8<|zb<|zb<|z8 rfl<|z2 (zu underlying66 rfl sizeOf60 (by decide) rfl rfl)<|z2 (zz (c := .fro _ _) isAgg60 rfl ⟨_, .head⟩ rfl)<|z2 (y5 underlying60 rfl)<|z2 (zMi rfl)<|z6<|zi<|ya (γ := Nat) [46, 47, 48, 114, 115] (fun m => [(116, .int .i64 m), (3, .int .i64 (wV f.vars + wBs (f.blocks.take k) + (f.blocks[k].name.size + 10 * (f.blocks[k].phis.length + f.blocks[k].insts.length)) + wP f.blocks[k].phis + wX (f.blocks[k].insts.take m) : Nat))]) (fun m => [(i7, .cells 66 (encBlk f.blocks[k]))]) (fun m => m ≤ f.blocks[k].insts.length ∧ wX (f.blocks[k].insts.take m) ≤ 400 * m ∧ ∀ p ∈ f.blocks[k].insts.take m, p.args.length ≤ 400) (fun m => f.blocks[k].insts.length - m) 0 ⟨rfl, (congrArg (AV.int .i64) (by simp [wX] <;> omega)), trivial⟩ zLe (⟨qi _, by simp [wX], by simp⟩) ?_
        rintro m ⟨hm, hwx, hx⟩
        refine zb<|z8 rfl<|z2 (ye rfl rfl)<|z6<|zb<|zr rfl (fun cm => ?_) (fun cm => ?_)
        ·have hm1 : m < f.blocks[k].insts.length := by omega
         have hq1 := hb4 _ (qj hm1)
         have hl6 := hq1.lt
         have hs2 := wX_succ hm1
         refine ze<|zb<|zi<|zb<|z8 rfl<|z2 (y6 underlying60 sizeOf33 rfl rfl rfl (qf (by omega)))<|z2 (zn isAgg33 sizeOf33 rfl rfl)<|y9 (cs := [.int .i64 0, .int .i64 0, .raw (.slice none 0 0), .int .i64 0]) zeroValue33 rfl rfl<|fun i11 => y4 sizeOf33 rfl rfl rfl rfl rfl rfl .head rfl<|z6<|zb<|zb<|yk (γ := Unit) [3, 11, 46, 47, 48, 114, 115, 116] (fun u => [(127, .bool (decide ((4000 : Int) < (wV f.vars + wBs (f.blocks.take k) + (f.blocks[k].name.size + 10 * (f.blocks[k].phis.length + f.blocks[k].insts.length)) + wP f.blocks[k].phis + wX (f.blocks[k].insts.take m) : Nat)) || decide ((400 : Int) < f.blocks[k].insts[m].args.length)))]) (fun u => [(i11, .cells 33 (encInst f.blocks[k].insts[m])), (i7, .cells 66 (encBlk f.blocks[k]))]) (fun u => True) ?_ (fun _ _ h => h) ?_
         ·refine z8 rfl<|z2 (zMi rfl)<|z2 (yv rfl rfl)<|z2 (zMb rfl)<|zm (s := 122) rfl (fun c7 => ?_) (fun c7 => ?_)
          ·refine z7 rfl rfl c7<|z7 rfl rfl c7<|z7 rfl rfl c7<|z7 rfl rfl c7<|z2 (zPt rfl c7 rfl)<|z6 ?_
           exact ⟨(), zR8, ⟨jb (by simp_all <;> grind), trivial⟩, zLe, trivial⟩
          ·refine za rfl rfl c7<|z2 (zu underlying33 rfl sizeOf23 (by decide) rfl rfl)<|za rfl rfl c7<|z2 (zz (c := .fro _ _) isAgg23 rfl ⟨_, .head⟩ rfl)<|za rfl rfl c7<|z2 (y5 underlying23 rfl)<|za rfl rfl c7<|z2 (yv rfl rfl)<|z2 (zPf rfl c7 rfl)<|z6 ?_
           exact ⟨(), zR8, ⟨jb (by simp_all <;> grind), trivial⟩, zLe, trivial⟩
         ·rintro _ _
          refine zy rfl (fun cp => ?_) (fun cp => ?_)
          ·refine zb<|z8 rfl<|z2 (zAb rfl)<|z6<|zh<|zk (x := .bool _) rfl ?_
           exact ⟨_, rfl, fun h => (by cases h), fun hl => absurd hl (fun hl => by obtain ⟨_, _, _, _, h4⟩ := hl.2.2.2.2.1 _ (qj hk1); have h5 := h4 _ (qj hm1); have h9 := little_le hl hk1; have hwb : wB f.blocks[k] = f.blocks[k].name.size + 10 * (f.blocks[k].phis.length + f.blocks[k].insts.length) + wP f.blocks[k].phis + wX f.blocks[k].insts := rfl; have h10 := wX_take f.blocks[k].insts m; simp only [Bool.or_eq_true, qt] at cp; omega)⟩
          ·rcases Bool.or_eq_false_iff.1 cp with ⟨a1, a2⟩
           have a2 := of_decide_eq_false a2
           refine ze<|z8 rfl<|z2 (zMi rfl)<|z2 (zu underlying33 rfl sizeOf23 (by decide) rfl rfl)<|z2 (zz (c := .fro _ _) isAgg23 rfl ⟨_, .head⟩ rfl)<|z2 (y5 underlying23 rfl)<|z2 (yb rfl rfl (by unfold I64; omega))<|z2 (zAi rfl)<|z6<|z8 rfl<|z2 (yb rfl rfl (by unfold I64; omega))<|z2 (zMi rfl)<|z6 ?_
           exact ⟨m + 1, zR5, ⟨rfl, congrArg (AV.int .i64) (by rw [hs2]; omega), trivial⟩, ⟨_, (.drop (.refl _)), rfl⟩, ⟨hm1, by omega, forall_take hm1 hx (by omega)⟩, by omega⟩
        ·obtain rfl : m = f.blocks[k].insts.length := by omega
         rw [qk] at hwx hx
         rw [qk]
         refine y8<|zb<|z8 rfl<|z2 (zMi rfl)<|z2 (yv rfl rfl)<|z6<|zr rfl (fun cz => ?_) (fun cz => ?_)
         ·refine zb<|z8 rfl<|z2 (zAb rfl)<|z6<|zh<|zk (x := .bool _) rfl ?_
          exact ⟨_, rfl, fun h => (by cases h), fun hl => absurd hl (fun hl => by have h9 := little_le hl hk1; have hwb : wB f.blocks[k] = f.blocks[k].name.size + 10 * (f.blocks[k].phis.length + f.blocks[k].insts.length) + wP f.blocks[k].phis + wX f.blocks[k].insts := rfl; omega)⟩
         ·have hwb : wB f.blocks[k] = f.blocks[k].name.size + 10 * (f.blocks[k].phis.length + f.blocks[k].insts.length) + wP f.blocks[k].phis + wX f.blocks[k].insts := rfl
          refine ze<|z8 rfl<|z2 (yb rfl rfl (by unfold I64; omega))<|z2 (zMi rfl)<|z6 ?_
          exact ⟨k + 1, zR2, ⟨rfl, congrArg (AV.int .i64) (by rw [hs]; omega), trivial⟩, ⟨_, (.drop (.refl _)), rfl⟩, ⟨hk1, by omega, by omega, forall_take hk1 hb ⟨hsb.1, hsb.2.1, hsb.2.2, hp, hx⟩⟩, by omega⟩
    ·obtain rfl : k = f.blocks.length := by omega
     rw [qk] at hw2 hw3 hb
     refine y8<|zb<|z8 rfl<|z2 (zAb rfl)<|z6<|zh<|zk (x := .bool _) rfl ?_
     exact ⟨_, rfl, fun _ => ⟨hsz.1, hsz.2.1, hsz.2.2, hv, hb, fun hne => hw2 (List.length_pos_iff.2 hne)⟩, fun _ => rfl⟩
theorem lawShaped2_spec (f : PFunc) (hf : okFunc f) (hn : okNames f) (hL : Letters E) : AFun Tryz.prog E 119 [.agg (encF f)] (.bool (decide (ShapedP f))) := by
 refine zp func119 rfl (by decide) rfl<|zb<|z8 rfl<|yc (cs := _) rfl rfl rfl<|z2 (zAb rfl)<|z6<|zb<|z8 rfl<|z2 (zn isAgg26 sizeOf26 rfl rfl)<|zg (refShaped_spec _ (by assumption) (by assumption) hL) rfl<|z2 (zAb rfl)<|z6<|zh<|zk (x := .bool _) rfl ?_
 rfl
noncomputable def fewB (f : PFunc) : Bool := @decide (little f) (Classical.propDecidable _)
theorem fewB_iff (f : PFunc) : fewB f = true ↔ little f := by unfold fewB; exact @decide_eq_true_iff _ (Classical.propDecidable _)
theorem fewT_spec (f : PFunc) (hf : wFunc f) : AFun Tryz.prog E 12 [.agg (encF f)] (.bool (fewB f)) :=
 (fewIff_spec f hf).mono fun x O' ⟨b, e, h⟩ => by
  rw [e]
  congr 1
  rw [qo, h, fewB_iff]
theorem lawTyped8_spec (f : PFunc) (hf : small f) (hL : Letters E) : AFun Tryz.prog E 75 [.agg (encF f)] (.bool (typedB f)) := by
 have hs := lawShaped2_spec (E := E) f hf.ok hf.names hL
 refine zp func75 rfl (by decide) rfl<|zb<|z8 rfl<|yc (cs := _) rfl rfl rfl<|z2 (zAb rfl)<|z6<|zb<|z8 rfl<|z2 (zn isAgg26 sizeOf26 rfl rfl)<|zg (hs) rfl ?_
 by_cases g4 : ShapedP f
 ·refine z2 (zMb rfl)<|za rfl rfl (qq g4)<|z2 (zn isAgg26 sizeOf26 rfl rfl)<|za rfl rfl (qq g4)<|zg (refTyped_spec f hf g4) rfl<|z2 (zPt rfl (qq g4) rfl)<|z2 (zAb rfl)<|z6<|zh<|zk (x := .bool _) rfl ?_
  exact jb (by unfold typedB; rw [shapedB_eq, qq g4]; rfl)
 ·refine z2 (zMb rfl)<|z7 rfl rfl (qr g4)<|z7 rfl rfl (qr g4)<|z2 (zPf rfl (qr g4) rfl)<|z2 (zAb rfl)<|z6<|zh<|zk (x := .bool _) rfl ?_
  exact jb (by unfold typedB; rw [shapedB_eq, qr g4]; rfl)
theorem lawTyped_spec (f : PFunc) (hw : wFunc f) (hL : Letters E) : AFun Tryz.prog E 37 [.agg (encF f)] (.bool (fewB f && typedB f)) := by
 refine zp func37 rfl (by decide) rfl<|zb<|z8 rfl<|yc (cs := _) rfl rfl rfl<|z2 (zAb rfl)<|z6<|zb<|z8 rfl<|z2 (zn isAgg26 sizeOf26 rfl rfl)<|zg (fewT_spec f hw) rfl<|z2 (zMb rfl)<|zm (s := 5) rfl (fun g => ?_) (fun g => ?_)
 ·refine za rfl rfl g<|z2 (zn isAgg26 sizeOf26 rfl rfl)<|za rfl rfl g<|zg (lawTyped8_spec f ((fewB_iff f).1 g).small hL) rfl<|z2 (zPt rfl g rfl)<|z2 (zAb rfl)<|z6<|zh<|zk (x := .bool _) rfl ?_
  exact jb (by rw [g]; rfl)
 ·refine z7 rfl rfl g<|z7 rfl rfl g<|z2 (zPf rfl g rfl)<|z2 (zAb rfl)<|z6<|zh<|zk (x := .bool _) rfl ?_
  exact jb (by rw [g]; rfl)
noncomputable def lawSing (f : PFunc) : Bool := fewB f && typedB f && singB f
theorem and3 {a b : Bool} (h : (a && b) = true) : a = true ∧ b = true := by simpa using h
theorem singR_typed {f : PFunc} (h : typedB f = true) : singR f = singB f :=
 singR_eq (typedB_ends h) fun b hb p hp c hc => by
  have h1 := ((typedB_shaped h).2.2.2.2.2 b hb).1 p hp
  have h2 := List.all_eq_true.1 h1.2.2.2.2 c hc
  simpa [hasB] using h2
theorem lawSingle_spec (f : PFunc) (hw : wFunc f) (hL : Letters E) : AFun Tryz.prog E 24 [.agg (encF f)] (.bool (lawSing f)) := by
 refine zp func24 rfl (by decide) rfl<|zb<|z8 rfl<|yc (cs := _) rfl rfl rfl<|z2 (zAb rfl)<|z6<|zb<|z8 rfl<|z2 (zn isAgg26 sizeOf26 rfl rfl)<|zg (lawTyped_spec f hw hL) rfl<|z2 (zMb rfl)<|zm (s := 5) rfl (fun g => ?_) (fun g => ?_)
 ·refine za rfl rfl g<|z2 (zn isAgg26 sizeOf26 rfl rfl)<|za rfl rfl g<|zg (refSingle_spec f (typedB_ends (and3 g).2) ((fewB_iff f).1 (and3 g).1).small (typedB_shaped (and3 g).2)) rfl<|z2 (zPt rfl g rfl)<|z2 (zAb rfl)<|z6<|zh<|zk (x := .bool _) rfl ?_
  exact jb (by unfold lawSing; rw [g, singR_typed (and3 g).2]; rfl)
 ·refine z7 rfl rfl g<|z7 rfl rfl g<|z2 (zPf rfl g rfl)<|z2 (zAb rfl)<|z6<|zh<|zk (x := .bool _) rfl ?_
  exact jb (by unfold lawSing; rw [g]; rfl)
end Go.Proofs.YtjnpcfpecilejaaGreatDoor
namespace Go.Proofs.YtjnpcfpecilejaaGreatDoor
open Go.Proofs.Tryz
open Go.Proofs Go.Lib Go.Shelf Go.RowKit
variable {E : World}
set_option maxRecDepth 20000
end Go.Proofs.YtjnpcfpecilejaaGreatDoor
namespace Go.Proofs.YtjnpcfpecilejaaGreatDoor
open Go.Proofs.Tryz
open Go.Proofs Go.Lib Go.Shelf Go.RowKit
variable {E : World}
set_option maxRecDepth 20000
theorem takes_10 : takesL 10 = [1] := by decide
theorem takes_11 : takesL 11 = [1, 1] := by decide
theorem typed_bool {f : PFunc} (h : typedB f = true) : ∀ b ∈ f.blocks, ∀ x ∈ b.insts, x.op = 10 ∨ x.op = 11 → ∀ v ∈ x.args, tyV f v = 1 := by
 intro b hb x hx hop v hv
 unfold typedB at h
 rw [qs] at h
 have h1 := List.all_eq_true.1 h.2 b hb
 unfold blkT at h1
 simp only [qs] at h1
 have h2 := List.all_eq_true.1 h1.1.2 x hx
 unfold instT at h2
 rw [if_neg (by omega)] at h2
 rw [qs, qt] at h2
 have h3 : kindV f v ∈ takesL x.op := by rw [← h2.1]; exact List.mem_map_of_mem hv
 show kindV f v = 1
 rcases hop with e | e <;> rw [e] at h3
 ·rw [takes_10] at h3; simpa using h3
 ·rw [takes_11] at h3; simpa using h3
theorem sing_once {f : PFunc} (h : singB f = true) : OnceP f := (onceB_iff f).1 (by unfold singB at h; simp only [qs] at h; exact h.2.2.1)
theorem ruleF_of {f : PFunc} (hf : small f) (h : (typedB f && singB f) = true) : RuleF f := ⟨hf, typedB_shaped (and3 h).1, sing_once (and3 h).2, typed_bool (and3 h).1⟩
theorem notdecT {p : Prop} [Decidable p] (h : (!decide p) = true) : ¬ p := fun hp => by rw [qq hp] at h; cases h
theorem notdecF {p : Prop} [Decidable p] (h : (!decide p) = false) : p := Classical.byContradiction fun hp => by rw [qr hp] at h; cases h
theorem lv_ok {l : List Rng} (h : ∀ r ∈ l, ok64 r) (u : Int) : ok64 (lv l u) := by
 unfold lv
 cases hu : l[u.toNat]? with
 | none => exact noR_ok
 | some r => exact h r (List.mem_of_getElem? hu)
end Go.Proofs.YtjnpcfpecilejaaGreatDoor
namespace Go.Proofs.YtjnpcfpecilejaaGreatDoor
open Go.Proofs.Tryz
open Go.Proofs
abbrev Edge := Int × Int × Int
def encE (e : Edge) : List AV := [.int .i64 e.1, .int .i64 e.2.1, .int .i64 e.2.2]
def eC (l : List Edge) : List AV := eE.av l
theorem eC_len (l : List Edge) : (eC l).length = l.length * 3 := eE.av_len l
theorem eC_push (l : List Edge) (e : Edge) : eC l ++ encE e = eC (l ++ [e]) := eE.av_push l e
def toldB (r : Rng) (n : Int) : Bool := !decide (r.2 < r.1) && (decide (n ≠ m64) && decide (n ≠ M64))
def endN (f : PFunc) (l : List Rng) (up : Bool) (v : Int) (other : Bool) : Int := if up ≠ other then (ofR f l v).2 else (ofR f l v).1
def putIf (c : Bool) (e : Edge) : List Edge := if c then [e] else []
def x0 (x : PInst) : Int := (x.args[0]?).getD 0
def x1 (x : PInst) : Int := (x.args[1]?).getD 0
def n0 (f : PFunc) : Int := f.vars.length
def endE (f : PFunc) (l : List Rng) (up : Bool) (v : Int) (other : Bool) (to from_ : Int) (s : Int) : List Edge := putIf (toldB (ofR f l v) (endN f l up v other)) (from_, to, s * endN f l up v other)
def ownE (f : PFunc) (l : List Rng) (up : Bool) (v : Int) : List Edge := endE f l up v false v (n0 f) 1
def fitsX (f : PFunc) (l : List Rng) (x : PInst) : Bool := decide ((ofR f l (x0 x)).2 < (ofR f l (x0 x)).1 ∨ (ofR f l (x1 x)).2 < (ofR f l (x1 x)).1 ∨ cornF (x.op - 2).toNat (ofR f l (x0 x)) (ofR f l (x1 x)))
def sumE (f : PFunc) (l : List Rng) (up : Bool) (x : PInst) (blk at_ : Int) : List Edge :=
 if (fitsX f l x || chkX f x blk at_) = true then
  (if x.op = 3 then endE f l up (x1 x) true x.dst (x0 x) (-1) else endE f l up (x1 x) false x.dst (x0 x) 1 ++ endE f l up (x0 x) false x.dst (x1 x) 1)
 else []
def posB (f : PFunc) (l : List Rng) (v : Int) : Bool := toldB (ofR f l v) (ofR f l v).1 && decide (0 ≤ (ofR f l v).1)
def restP1 (f : PFunc) (l : List Rng) (x : PInst) : Bool := if x.op = 5 then posB f l (x0 x) && posB f l (x1 x) else posB f l (x0 x)
def restE (f : PFunc) (l : List Rng) (up : Bool) (x : PInst) : List Edge :=
 (if restP1 f l x = true then [if up = true then (x0 x, x.dst, 0) else (n0 f, x.dst, 0)] else []) ++ putIf (decide (x.op = 6) && (posB f l (x1 x) && up)) (x1 x, x.dst, -1)
def piE (up : Bool) (x : PInst) : List Edge :=
 (x0 x, x.dst, 0) :: (if up = true ∧ x.num = 0 then [(x1 x, x.dst, -1)]
  else if (up = true ∧ (x.num = 1 ∨ x.num = 2)) ∨ (up = false ∧ (x.num = 2 ∨ x.num = 3)) then [(x1 x, x.dst, 0)]
  else if up = false ∧ x.num = 4 then [(x1 x, x.dst, 1)] else [])
def instE (f : PFunc) (l : List Rng) (up : Bool) (x : PInst) (blk at_ : Int) : List Edge :=
 if x.op = 0 then [(n0 f, x.dst, x.num)] else if x.op = 1 ∨ x.op = 12 ∨ x.op = 15 then [(x0 x, x.dst, 0)]
 else if x.op = 2 ∨ x.op = 3 then sumE f l up x blk at_ else if x.op = 5 ∨ x.op = 6 then restE f l up x
 else if x.op = 16 then [(n0 f, x.dst, 0)] else if x.op = 25 then piE up x
 else if x.op = 26 then [(x0 x, x.dst, 0), if up = true then (x1 x, x.dst, -1) else (n0 f, x.dst, 0)] else []
def varE (f : PFunc) (l : List Rng) (up : Bool) (v : Nat) : List Edge := if (makerT f v).1 < 0 ∧ tyV f v ≠ 1 then ownE f l up v else []
def stepE (f : PFunc) (l : List Rng) (up : Bool) (x : PInst) (blk at_ : Int) : List Edge := if 0 ≤ x.dst ∧ tyV f x.dst ≠ 1 then instE f l up x blk at_ ++ ownE f l up x.dst else []
def varsE (f : PFunc) (l : List Rng) (up : Bool) (k : Nat) : List Edge := (List.range k).flatMap (varE f l up)
def insE (f : PFunc) (l : List Rng) (up : Bool) (i : Nat) (xs : List PInst) : List Edge := xs.zipIdx.flatMap fun q => stepE f l up q.1 i q.2
def blksE (f : PFunc) (l : List Rng) (up : Bool) (k : Nat) : List Edge := (f.blocks.take k).zipIdx.flatMap fun b => insE f l up b.2 b.1.insts
def edgesE (f : PFunc) (l : List Rng) (up : Bool) : List Edge := varsE f l up f.vars.length ++ blksE f l up f.blocks.length
theorem varsE_succ (f : PFunc) (l : List Rng) (up : Bool) (k : Nat) : varsE f l up (k + 1) = varsE f l up k ++ varE f l up k := by unfold varsE; rw [List.range_succ, List.flatMap_append]; simp
theorem insE_succ (f : PFunc) (l : List Rng) (up : Bool) (i : Nat) {xs : List PInst} {j : Nat} (h : j < xs.length) : insE f l up i (xs.take (j + 1)) = insE f l up i (xs.take j) ++ stepE f l up xs[j] i j := by
 unfold insE; rw [zipTake h, List.flatMap_append]; simp
theorem blksE_succ {f : PFunc} (l : List Rng) (up : Bool) {k : Nat} (h : k < f.blocks.length) : blksE f l up (k + 1) = blksE f l up k ++ insE f l up k f.blocks[k].insts := by
 unfold blksE; rw [zipTake h, List.flatMap_append]; simp
theorem putIf_len (c : Bool) (e : Edge) : (putIf c e).length ≤ 1 := by unfold putIf; split <;> simp
theorem endE_len (f : PFunc) (l : List Rng) (up : Bool) (v : Int) (o : Bool) (a b s : Int) : (endE f l up v o a b s).length ≤ 1 := putIf_len _ _
theorem instE_len (f : PFunc) (l : List Rng) (up : Bool) (x : PInst) (blk at_ : Int) : (instE f l up x blk at_).length ≤ 2 := by
 have h1 := endE_len f l up
 unfold instE
 split
 ·simp
 split
 ·simp
 split
 ·unfold sumE
  split
  ·split
   ·have := h1 (x1 x) true x.dst (x0 x) (-1); omega
   ·have a := h1 (x1 x) false x.dst (x0 x) 1
    have b := h1 (x0 x) false x.dst (x1 x) 1
    rw [ql]; omega
  ·simp
 split
 ·unfold restE
  have a := putIf_len (decide (x.op = 6) && (posB f l (x1 x) && up)) (x1 x, x.dst, -1)
  rw [ql]
  split <;> simp <;> omega
 split
 ·simp
 split
 ·unfold piE; (repeat' split) <;> simp
 split
 ·simp
 ·simp
theorem stepE_len (f : PFunc) (l : List Rng) (up : Bool) (x : PInst) (blk at_ : Int) : (stepE f l up x blk at_).length ≤ 3 := by
 unfold stepE
 split
 ·have a := instE_len f l up x blk at_
  have b := endE_len f l up x.dst false x.dst (n0 f) 1
  unfold ownE; rw [ql]; omega
 ·simp
theorem varE_len (f : PFunc) (l : List Rng) (up : Bool) (k : Nat) : (varE f l up k).length ≤ 1 := by
 unfold varE
 split
 ·exact endE_len _ _ _ _ _ _ _ _
 ·simp
theorem varsE_len (f : PFunc) (l : List Rng) (up : Bool) : ∀ k, (varsE f l up k).length ≤ k
 | 0 => by simp [varsE]
 | k + 1 => by
  have a := varsE_len f l up k
  have b := varE_len f l up k
  rw [varsE_succ, ql]; omega
theorem insE_len (f : PFunc) (l : List Rng) (up : Bool) (i : Nat) (xs : List PInst) : ∀ j, j ≤ xs.length → (insE f l up i (xs.take j)).length ≤ 3 * j
 | 0, _ => by simp [insE]
 | j + 1, hj => by
  have a := insE_len f l up i xs j (by omega)
  have b := stepE_len f l up (xs[j]'(by omega)) i j
  rw [insE_succ f l up i (by omega), ql]; omega
theorem blksE_len (f : PFunc) (l : List Rng) (up : Bool) {m : Nat} (h : ∀ b ∈ f.blocks, b.insts.length ≤ m) : ∀ k, k ≤ f.blocks.length → (blksE f l up k).length ≤ k * (3 * m)
 | 0, _ => by simp [blksE]
 | k + 1, hk => by
  have a := blksE_len f l up h k (by omega)
  have b := insE_len f l up k (f.blocks[k]'(by omega)).insts (f.blocks[k]'(by omega)).insts.length (Nat.le_refl _)
  have c := h _ (qj (show k < f.blocks.length by omega))
  rw [qk] at b
  rw [blksE_succ l up (by omega), ql, Nat.add_mul]; omega
end Go.Proofs.YtjnpcfpecilejaaGreatDoor
namespace Go.Proofs.YtjnpcfpecilejaaGreatDoor
open Go.Proofs.Tryz
open Go.Proofs
theorem encZ_any {I J : G} {r : Rng} {v : Value} (h : RepV J (.agg (encZ r)) v) : RepV I (.agg (encZ r)) v := by
 obtain ⟨vs, rfl, a, _, rfl, h1, b, _, rfl, h2, h3⟩ := h
 exact ⟨_, rfl, a, _, rfl, h1, b, _, rfl, h2, h3⟩
end Go.Proofs.YtjnpcfpecilejaaGreatDoor
namespace Go.Proofs.YtjnpcfpecilejaaGreatDoor
open Go.Proofs.Tryz
open Go.Proofs
theorem knowLP {I : G} {F : List (Nat × Obj)} {E w : World} {i : Nat} {T : TypeId} {cs : List AV} (h : SLA I [(i, .cells T cs)] F E w) :
  ∃ J L, I.le J ∧ RepOs I [(i, .cells T cs)] L ∧ SL I.k (L ++ F) E w ∧ (∀ y ∈ L, J.k y.1 = some y.2) ∧ SLA J [] F E w ∧ ∀ v, RepV I (.po i 0) v → RepV J (.pf cs) v := by
 obtain ⟨ht, L, hL, hS⟩ := h
 have hL0 := hL
 obtain ⟨A, B, hp, ⟨b, c, vs, e1, hvs, hvc, hA⟩, hB⟩ := hL
 have hB : B = [] := hB
 simp only at e1
 rw [hB, qp] at hp
 subst hp
 subst hA
 obtain ⟨hl, hS3⟩ := SL.freeze (by simpa using hS : SL I.k ((b, .cells vs.toArray T (0, 0)) :: F) E w)
 let J : G := ⟨I.k.put b (.cells vs.toArray T (0, 0)), I.h⟩
 have hle : I.le J := ⟨hl, fun _ _ h => h⟩
 have hb : J.k b = some (.cells vs.toArray T (0, 0)) := Ghost.put_same _ _ _
 refine ⟨J, _, hle, hL0, hS, fun y hy => (by rw [List.mem_singleton.1 hy]; exact hb), ⟨ht, [], rfl, by simpa using hS3⟩, ?_⟩
 rintro v ⟨b2, c2, e2, rfl⟩
 rw [e1] at e2
 simp only [Option.some.injEq, Prod.mk.injEq] at e2
 obtain ⟨rfl, rfl⟩ := e2
 exact ⟨b, 0, vs, rfl, RepL.mono hle _ _ hvs, fun j u hj => ⟨_, _, _, hb, by rw [Nat.zero_add, List.getElem?_toArray]; exact hj⟩⟩
theorem ACall.lendP {P : Program} {E : World} {f : FuncId} {rest : List AV} {x : AV} {i : Nat} {T : TypeId} {cs : List AV} (hx : ∀ (I J : G) v, RepV J x v → RepV I x v)
  (h : AFun P E f (.pf cs :: rest) x) : ACall P E f (.po i 0 :: rest) [(i, .cells T cs)] fun y O => y = x ∧ O = [(i, .cells T cs)] := fun I F w vs h1 h2 => by
 obtain ⟨J, L, hle, hL, hS, hf, hJ, hv⟩ := knowLP h2
 obtain ⟨v1, us, rfl, r1, r2⟩ := h1
 refine (h J F w _ ⟨v1, us, rfl, hv v1 r1, RepL.mono hle _ _ r2⟩ hJ).mono fun v w' ⟨J2, y, O', a, b, c, d⟩ => ?_
 have d : y = x := d
 subst d
 obtain ⟨_, L', _, hS'⟩ := c
 refine ⟨I, y, _, .refl _, hx I J2 v b, ⟨h2.1, L, hL, ?_⟩, rfl, rfl⟩
 refine ⟨hS'.os, hS'.output, hS'.tape, fun b o hb => hS'.pers b o (a.k b o (hle.k b o hb)), fun z hz => ?_, hS.nodup, hS.apart, hS.base, hS.flat, hS.oflat⟩
 rcases List.mem_append.1 hz with hz | hz
 ·exact hS'.pers _ _ (a.k _ _ (hf z hz))
 ·exact hS'.own z (List.mem_append_right _ hz)
theorem bool_any {I J : G} {b : Bool} {v : Value} (h : RepV J (.bool b) v) : RepV I (.bool b) v := h
theorem tup2_any {I J : G} {k : IntKind} {n : Int} {b : Bool} {v : Value} (h : RepV J (.tup [.int k n, .bool b]) v) : RepV I (.tup [.int k n, .bool b]) v := by
 obtain ⟨vs, rfl, a, _, rfl, h1, b, _, rfl, h2, h3⟩ := h
 exact ⟨_, rfl, a, _, rfl, h1, b, _, rfl, h2, h3⟩
end Go.Proofs.YtjnpcfpecilejaaGreatDoor
namespace Go.Proofs.YtjnpcfpecilejaaGreatDoor
open Go.Proofs.Tryz
open Go.Proofs Go.Lib Go.Shelf Go.RowKit
variable {E : World}
set_option maxRecDepth 20000
def tblL (f : PFunc) (l : List Rng) (up : Bool) (X : AV) : List AV := encF f ++ [treeT f, .fro 2 (l.map encZ), .int .i64 f.vars.length, .bool up, X]
theorem tof_spec (f : PFunc) (hS : ShapedP f) (l : List Rng) (hll : l.length = f.vars.length) (up : Bool) (X : AV) {a : Int} (ha : hasV f a = true) : AFun Tryz.prog E 198 [.pf (tblL f l up X), .int .i64 a] (.agg (encZ (ofR f l a))) := by
 obtain ⟨ha0, ha1⟩ := hasV_rng ha
 obtain ⟨y, hy, hyt, hy0, hy2⟩ := ty_get hS ha
 refine zp func198 rfl (by decide) rfl<|zb<|z8 rfl<|y9 (cs := [.int .i64 0, .int .i64 0]) zeroValue74 rfl rfl<|fun i4 => z6<|zb<|y7 (fun j => Nat.beq j 18) (by kernel_rfl) rfl (zo (.rest _))<|zTk (i := 0) rfl (zq (v := .pf _) rfl)<|zTk (i := 1) rfl (qa rfl)<|zTk (i := 2) rfl (zc underlying171 rfl sizeOf41 (by decide) rfl rfl)<|zTk (i := 3) rfl (zLf isAgg41 rfl)<|zTk (i := 4) rfl (zMi rfl)<|zTk (i := 5) rfl (y6 (j := a.toNat) underlying41 sizeOf74 rfl rfl (by omega) (lv_get (by omega)))<|zTk (i := 6) rfl (zn isAgg74 sizeOf74 rfl rfl)<|zTk (i := 7) rfl (zq (v := .pf _) rfl)<|zTk (i := 8) rfl (qa rfl)<|zTk (i := 9) rfl (zc underlying171 rfl sizeOf26 (by decide) rfl rfl)<|zTk (i := 10) rfl (zc underlying26 rfl sizeOf22 (by decide) rfl rfl)<|zTk (i := 11) rfl (zLf isAgg22 rfl)<|zTk (i := 12) rfl (zMi rfl)<|zTk (i := 13) rfl (y6 (j := a.toNat) underlying22 sizeOf56 rfl rfl (by omega) hy)<|zTk (i := 14) rfl (zc underlying56 rfl sizeOf54 (by decide) rfl rfl)<|zTk (i := 15) rfl (zLi isAgg54 rfl)<|zOn (i := 16) rfl<|zg (iType _) rfl<|z6<|zOn (i := 17) rfl<|zg (iMeet _ _) rfl<|z6<|yx<|q7 (i := 18) rfl (by kernel_rfl) (by kernel_rfl)<|y4 sizeOf74 rfl rfl rfl rfl rfl rfl .head rfl<|z6<|q3 (by kernel_rfl)<|zh<|yz rfl ⟨_, .head⟩ isAgg74 sizeOf74 rfl ?_
 unfold ofR; rw [← hyt]; rfl
theorem told_spec (r : Rng) (n : Int) : AFun Tryz.prog E 199 [.agg (encZ r), .int .i64 n] (.bool (toldB r n)) := by
 refine zp func199 rfl (by decide) rfl<|zb<|z8 rfl<|yc (cs := _) rfl rfl rfl<|z2 (zAb rfl)<|z6<|zb<|z8 rfl<|z2 (zn isAgg74 sizeOf74 rfl rfl)<|zg (iEmpty _) rfl<|z2 (yg rfl)<|z2 (zMb rfl)<|zm (s := 8) rfl (fun c1 => ?_) (fun c1 => ?_)
 ·refine za rfl rfl c1<|z2 (zMi rfl)<|za rfl rfl c1<|z2 (yl rfl rfl)<|z2 (zPt rfl c1 rfl)<|z2 (zMb rfl)<|zm (s := 12) rfl (fun c2 => ?_) (fun c2 => ?_)
  ·refine za rfl rfl c2<|z2 (zMi rfl)<|za rfl rfl c2<|z2 (yl rfl rfl)<|z2 (zPt rfl c2 rfl)<|z2 (zAb rfl)<|z6<|zh<|zk (x := .bool _) rfl ?_
   exact jb (by unfold toldB m64 M64; simp_all)
  ·refine z7 rfl rfl c2<|z7 rfl rfl c2<|z2 (zPf rfl c2 rfl)<|z2 (zAb rfl)<|z6<|zh<|zk (x := .bool _) rfl ?_
   exact jb (by unfold toldB m64 M64; simp_all)
 ·refine z7 rfl rfl c1<|z7 rfl rfl c1<|z2 (zPf rfl c1 rfl)<|z2 (zMb rfl)<|z7 rfl rfl rfl<|z7 rfl rfl rfl<|z2 (zPf rfl rfl rfl)<|z2 (zAb rfl)<|z6<|zh<|zk (x := .bool _) rfl ?_
  exact jb (by unfold toldB m64 M64; simp_all)
theorem tend_spec (f : PFunc) (hS : ShapedP f) (l : List Rng) (hll : l.length = f.vars.length) (up : Bool) (X : AV) {a : Int} (ha : hasV f a = true) (other : Bool) : AFun Tryz.prog E 154 [.pf (tblL f l up X), .int .i64 a, .bool other] (.tup [.int .i64 (endN f l up a other), .bool (toldB (ofR f l a) (endN f l up a other))]) := by
 obtain ⟨r, hr⟩ : ∃ r, ofR f l a = r := ⟨_, rfl⟩
 have hof := tof_spec (E := E) f hS l hll up X ha
 have hen : endN f l up a other = if up ≠ other then r.2 else r.1 := by unfold endN; rw [hr]
 rw [hr] at hof ⊢
 refine zp func154 rfl (by decide) rfl<|zb<|z8 rfl<|z2 (zAi rfl)<|z2 (zAb rfl)<|z6<|zb<|z8 rfl<|z2 (zq (v := .pf _) rfl)<|z2 (zMi rfl)<|zg (hof) rfl<|y9 (cs := [.int .i64 0, .int .i64 0]) zeroValue74 rfl rfl<|fun i8 => y4 sizeOf74 rfl rfl rfl rfl rfl rfl .head rfl<|z6<|zb<|z8 rfl<|z2 (zu underlying74 rfl sizeOf2 (by decide) rfl rfl)<|z2 (zz (c := .int _ _) isAgg2 rfl ⟨_, .head⟩ rfl)<|z2 (zAi rfl)<|z6<|zb<|zb<|z8 rfl<|z2 (zq (v := .pf _) rfl)<|z2 (qa rfl)<|z2 (zc underlying171 rfl sizeOf4 (by decide) rfl rfl)<|z2 (q6 (c := .bool _) isAgg4 rfl)<|z2 (zMb rfl)<|z2 (Gv.neqB underlying4 rfl rfl)<|z6<|zy rfl (fun c => ?_) (fun c => ?_)
 ·refine z8 rfl<|z2 (zu underlying74 rfl sizeOf2 (by decide) rfl rfl)<|z2 (zz (c := .int _ _) isAgg2 rfl ⟨_, .head⟩ rfl)<|z2 (zAi rfl)<|z6<|zb<|z8 rfl<|z2 (zMi rfl)<|z2 (Gv.loadWC isAgg74 sizeOf74 rfl ⟨_, .head⟩ rfl)<|z2 (zMi rfl)<|zg (told_spec _ _) rfl<|z2 (zAi rfl)<|z2 (zAb rfl)<|z6<|zh<|q5 (x := .int _ _) (y := .bool _) rfl rfl ?_
  rw [hen, if_pos (by simpa using c)]; try rfl
 ·refine ze<|zb<|z8 rfl<|z2 (zMi rfl)<|z2 (Gv.loadWC isAgg74 sizeOf74 rfl ⟨_, .head⟩ rfl)<|z2 (zMi rfl)<|zg (told_spec _ _) rfl<|z2 (zAi rfl)<|z2 (zAb rfl)<|z6<|zh<|q5 (x := .int _ _) (y := .bool _) rfl rfl ?_
  rw [hen, if_neg (by simpa using c)]; try rfl
theorem tpos_spec (f : PFunc) (hS : ShapedP f) (l : List Rng) (hll : l.length = f.vars.length) (up : Bool) (X : AV) {a : Int} (ha : hasV f a = true) : AFun Tryz.prog E 202 [.pf (tblL f l up X), .int .i64 a] (.bool (posB f l a)) := by
 obtain ⟨r, hr⟩ : ∃ r, ofR f l a = r := ⟨_, rfl⟩
 have hof := tof_spec (E := E) f hS l hll up X ha
 have hpo : posB f l a = (toldB r r.1 && decide (0 ≤ r.1)) := by unfold posB; rw [hr]
 rw [hr] at hof
 rw [hpo]
 refine zp func202 rfl (by decide) rfl<|zb<|z8 rfl<|z2 (zAb rfl)<|z6<|zb<|z8 rfl<|z2 (zq (v := .pf _) rfl)<|z2 (zMi rfl)<|zg (hof) rfl<|y9 (cs := [.int .i64 0, .int .i64 0]) zeroValue74 rfl rfl<|fun i5 => y4 sizeOf74 rfl rfl rfl rfl rfl rfl .head rfl<|z6<|zb<|z8 rfl<|z2 (Gv.loadWC isAgg74 sizeOf74 rfl ⟨_, .head⟩ rfl)<|z2 (zu underlying74 rfl sizeOf2 (by decide) rfl rfl)<|z2 (zz (c := .int _ _) isAgg2 rfl ⟨_, .head⟩ rfl)<|zg (told_spec _ _) rfl<|z2 (zMb rfl)<|zm (s := 13) rfl (fun c => ?_) (fun c => ?_)
 ·refine za rfl rfl c<|z2 (zu underlying74 rfl sizeOf2 (by decide) rfl rfl)<|za rfl rfl c<|z2 (zz (c := .int _ _) isAgg2 rfl ⟨_, .head⟩ rfl)<|za rfl rfl c<|z2 (qb rfl rfl)<|z2 (zPt rfl c rfl)<|z2 (zAb rfl)<|z6<|zh<|zk (x := .bool _) rfl ?_
  exact jb (by rw [show toldB r r.1 = true from c]; rfl)
 ·refine z7 rfl rfl c<|z7 rfl rfl c<|z7 rfl rfl c<|z2 (zPf rfl c rfl)<|z2 (zAb rfl)<|z6<|zh<|zk (x := .bool _) rfl ?_
  exact jb (by rw [show toldB r r.1 = false from c]; rfl)
theorem takes_21 : (takesL 21).length = 2 := by decide
theorem takes_22 : (takesL 22).length = 2 := by decide
theorem chk_two {f : PFunc} (hS : ShapedP f) {op : Int} (ho : op = 2 ∨ op = 3) {b : PBlock} (hb : b ∈ f.blocks) {z : PInst} (hz : z ∈ b.insts) (h : z.op = op + 19) : ∃ c d, z.args = [c, d] := by
 have := (instP_F ((hS.2.2.2.2.2 b hb).2.1 z hz)).len
 have h2 : z.args.length = 2 := by
  rcases ho with rfl | rfl
  ·rw [this, h]; exact takes_21
  ·rw [this, h]; exact takes_22
 match z.args, h2 with
 | [c, d], _ => exact ⟨c, d, rfl⟩
set_option maxHeartbeats 4000000 in
theorem tchk_spec (f : PFunc) (hf : small f) (hS : ShapedP f) (hE : EndsOk f) (l : List Rng) (up : Bool) (X : AV) (x : PInst) (ho : x.op = 2 ∨ x.op = 3) {xa xb : Int} (hxa : x.args = [xa, xb]) (block at_ : Nat) :
  AFun Tryz.prog E 201 [.pf (tblL f l up X), .agg (encInst x), .int .i64 block, .int .i64 at_] (.bool (chkX f x block at_)) := by
 have hn := hf.2.2.1
 have hs : isSum x.op = true := by unfold isSum; exact qq (by omega)
 rw [chkX, hs, Bool.true_and]
 refine zp func201 rfl (by decide) rfl<|zb<|z8 rfl<|yc (cs := _) rfl rfl rfl<|z2 (zAb rfl)<|z6<|zb<|zb<|z8 rfl<|z2 (zq (v := .pf _) rfl)<|z2 (qa rfl)<|z2 (zc underlying171 rfl sizeOf26 (by decide) rfl rfl)<|z2 (zc underlying26 rfl sizeOf24 (by decide) rfl rfl)<|z2 (zLf isAgg24 rfl)<|z2 (y5 underlying24 rfl)<|z2 (zMi rfl)<|z6<|zi<|ya (γ := Nat) [0, 2, 3, 5, 17, 18] (fun i => [(19, .int .i64 i)]) (fun i => []) (fun i => i ≤ f.blocks.length ∧ (List.range i).any (chkI f (x.op + 19) x.args block at_) = false) (fun i => f.blocks.length - i) 0 zR1 zLe (⟨qi _, rfl⟩) ?_
 rintro i ⟨hi, hiall⟩
 refine zb<|z8 rfl<|z2 (ye rfl rfl)<|z6<|zb<|zr rfl (fun ci => ?_) (fun ci => ?_)
 ·have hi2 : i < f.blocks.length := by simp at ci; omega
  obtain ⟨b, hbi⟩ : ∃ b, f.blocks[i] = b := ⟨_, rfl⟩
  have hget : f.blocks[i]? = some b := by rw [qf hi2, hbi]
  have hmem : b ∈ f.blocks := hbi ▸ qj hi2
  obtain ⟨hb0, hb1, hb2, hb3, hb4⟩ := hf.2.2.2.2 b hmem
  refine ze<|zb<|zi<|zb<|z8 rfl<|z2 (zMi rfl)<|z2 (y6 (j := i) underlying24 sizeOf66 rfl rfl rfl hget)<|z2 (zn isAgg66 sizeOf66 rfl rfl)<|y9 (cs := [.str ⟨#[]⟩, .raw (.slice none 0 0), .raw (.slice none 0 0), .int .i64 0, .int .i64 0, .int .i64 0, .int .i64 0]) zeroValue66 rfl rfl<|fun i10 => z2 (zAi rfl)<|y4 sizeOf66 rfl rfl rfl rfl rfl rfl .head rfl<|zf (yh (t := 10) rfl .head)<|z6<|zb<|z8 rfl<|z2 (zc underlying66 rfl sizeOf60 (by decide) rfl rfl)<|z2 (zLf isAgg60 rfl)<|z2 (y5 underlying60 rfl)<|z2 (zMi rfl)<|z6<|zi<|ya (γ := Nat) [0, 2, 3, 5, 9, 17, 18, 19, 25, 26] (fun k => [(27, .int .i64 k)]) (fun k => []) (fun k => k ≤ b.insts.length ∧ (b.insts.zipIdx.take k).any (chkQ f (x.op + 19) x.args i block at_) = false) (fun k => b.insts.length - k) 0 zR1 zLe (⟨qi _, rfl⟩) ?_
  rintro k ⟨hk, hkall⟩
  refine zb<|z8 rfl<|z2 (ye rfl rfl)<|z6<|zb<|zr rfl (fun ck => ?_) (fun ck => ?_)
  ·have hk2 : k < b.insts.length := by simp at ck; omega
   obtain ⟨z, hz⟩ : ∃ z, b.insts[k] = z := ⟨_, rfl⟩
   have hzm : z ∈ b.insts := hz ▸ qj hk2
   have hzi : k < b.insts.zipIdx.length := by simp; exact hk2
   have hze : b.insts.zipIdx[k] = (z, k) := by simp [hz]
   have hq : chkQ f (x.op + 19) x.args i block at_ b.insts.zipIdx[k] = (decide (z.op = x.op + 19) && decide (z.args = x.args) && aheadB f ((i : Int), (k : Int)) block at_) := by rw [hze]; rfl
   refine ze<|zb<|zi<|zb<|z8 rfl<|z2 (zMi rfl)<|z2 (y6 (j := k) underlying60 sizeOf33 rfl rfl rfl (by rw [qf hk2, hz]))<|z2 (zn isAgg33 sizeOf33 rfl rfl)<|y9 (cs := [.int .i64 0, .int .i64 0, .raw (.slice none 0 0), .int .i64 0]) zeroValue33 rfl rfl<|fun i12 => z2 (zAi rfl)<|y4 sizeOf33 rfl rfl rfl rfl rfl rfl .head rfl<|zf (yh (t := 12) rfl .head)<|z6 ?_
   by_cases hop : z.op = x.op + 19
   ·obtain ⟨c, d, hzc⟩ := chk_two hS ho hmem hzm hop
    have hq2 : chkQ f (x.op + 19) x.args i block at_ b.insts.zipIdx[k] = (decide (c = xa) && (decide (d = xb) && aheadB f ((i : Int), (k : Int)) block at_)) := by
     rw [hq, qq hop, Bool.true_and, hzc, hxa]
     by_cases e1 : c = xa
     ·by_cases e2 : d = xb
      ·simp [e1, e2]
      ·simp [e1, e2]
     ·simp [e1]
    refine zb<|yk (γ := Bool) [0, 2, 3, 5, 9, 17, 18, 19, 25, 26, 27] (fun u => [(72, .bool u)]) (fun u => []) (fun u => u = chkQ f (x.op + 19) x.args i block at_ b.insts.zipIdx[k]) ?_ (fun _ _ h => h) ?_
    ·refine y7 (fun j => false) (by kernel_rfl) rfl (zo (.rest _))<|zTk (i := 0) rfl (zc underlying33 rfl sizeOf31 (by decide) rfl rfl)<|zTk (i := 1) rfl (zLi isAgg31 rfl)<|zTk (i := 2) rfl (zc underlying33 rfl sizeOf31 (by decide) rfl rfl)<|zTk (i := 3) rfl (zLi isAgg31 rfl)<|zTk (i := 4) rfl (Gv.addW rfl rfl)<|zTk (i := 5) rfl (Gv.subW rfl rfl)<|zTk (i := 6) rfl (y3 rfl rfl)<|zTk (i := 7) rfl (zMb rfl)<|zTt (i := 8) rfl rfl rfl (by rw [qt, wrap_fit (z := 21 + x.op) (by unfold is64; omega), wrap_fit (z := 21 + x.op - 2) (by unfold is64; omega)]; omega) (zc underlying33 rfl sizeOf23 (by decide) rfl rfl)<|zTt (i := 9) rfl rfl rfl (by rw [qt, wrap_fit (z := 21 + x.op) (by unfold is64; omega), wrap_fit (z := 21 + x.op - 2) (by unfold is64; omega)]; omega) (zLf isAgg23 rfl)<|zTt (i := 10) rfl rfl rfl (by rw [qt, wrap_fit (z := 21 + x.op) (by unfold is64; omega), wrap_fit (z := 21 + x.op - 2) (by unfold is64; omega)]; omega) (y6 (j := 0) underlying23 sizeOf3 rfl rfl rfl (by rw [hzc]; rfl))<|zTt (i := 11) rfl rfl rfl (by rw [qt, wrap_fit (z := 21 + x.op) (by unfold is64; omega), wrap_fit (z := 21 + x.op - 2) (by unfold is64; omega)]; omega) (zLi isAgg3 rfl)<|zTt (i := 12) rfl rfl rfl (by rw [qt, wrap_fit (z := 21 + x.op) (by unfold is64; omega), wrap_fit (z := 21 + x.op - 2) (by unfold is64; omega)]; omega) (zc underlying33 rfl sizeOf23 (by decide) rfl rfl)<|zTt (i := 13) rfl rfl rfl (by rw [qt, wrap_fit (z := 21 + x.op) (by unfold is64; omega), wrap_fit (z := 21 + x.op - 2) (by unfold is64; omega)]; omega) (zLf isAgg23 rfl)<|zTt (i := 14) rfl rfl rfl (by rw [qt, wrap_fit (z := 21 + x.op) (by unfold is64; omega), wrap_fit (z := 21 + x.op - 2) (by unfold is64; omega)]; omega) (y6 (j := 0) underlying23 sizeOf3 rfl rfl rfl (by rw [hxa]; rfl))<|zTt (i := 15) rfl rfl rfl (by rw [qt, wrap_fit (z := 21 + x.op) (by unfold is64; omega), wrap_fit (z := 21 + x.op - 2) (by unfold is64; omega)]; omega) (zLi isAgg3 rfl)<|zTt (i := 16) rfl rfl rfl (by rw [qt, wrap_fit (z := 21 + x.op) (by unfold is64; omega), wrap_fit (z := 21 + x.op - 2) (by unfold is64; omega)]; omega) (y3 rfl rfl)<|zTk (i := 17) rfl (zPt rfl (by rw [qt, wrap_fit (z := 21 + x.op) (by unfold is64; omega), wrap_fit (z := 21 + x.op - 2) (by unfold is64; omega)]; omega) rfl)<|zTk (i := 18) rfl (zMb rfl)<|AAny.case (s := 50) rfl (fun c1 => ?_) (fun c1 => ?_)
     ·refine zTt (i := 19) rfl rfl rfl c1 (zc underlying33 rfl sizeOf23 (by decide) rfl rfl)<|zTt (i := 20) rfl rfl rfl c1 (zLf isAgg23 rfl)<|zTt (i := 21) rfl rfl rfl c1 (y6 (j := 1) underlying23 sizeOf3 rfl rfl rfl (by rw [hzc]; rfl))<|zTt (i := 22) rfl rfl rfl c1 (zLi isAgg3 rfl)<|zTt (i := 23) rfl rfl rfl c1 (zc underlying33 rfl sizeOf23 (by decide) rfl rfl)<|zTt (i := 24) rfl rfl rfl c1 (zLf isAgg23 rfl)<|zTt (i := 25) rfl rfl rfl c1 (y6 (j := 1) underlying23 sizeOf3 rfl rfl rfl (by rw [hxa]; rfl))<|zTt (i := 26) rfl rfl rfl c1 (zLi isAgg3 rfl)<|zTt (i := 27) rfl rfl rfl c1 (y3 rfl rfl)<|zTk (i := 28) rfl (zPt rfl c1 rfl)<|zTk (i := 29) rfl (zMb rfl)<|AAny.case (s := 61) rfl (fun c2 => ?_) (fun c2 => ?_)
      ·refine zTt (i := 30) rfl rfl rfl c2 (zq (v := .pf _) rfl)<|zTt (i := 31) rfl rfl rfl c2 (qa rfl)<|zTt (i := 32) rfl rfl rfl c2 (zc underlying171 rfl sizeOf101 (by decide) rfl rfl)<|zTt (i := 33) rfl rfl rfl c2 (q6 (c := .pf _) isAgg101 rfl)<|zTt (i := 34) rfl rfl rfl c2 (zMi rfl)<|zTt (i := 35) rfl rfl rfl c2 (zMi rfl)<|zTt (i := 36) rfl rfl rfl c2 (y1 (cps := [(0, [_]), (1, [_])]) (rs := [_, _]) pl109 rfl rfl rfl)<|zTt (i := 37) rfl rfl rfl c2 (zMi rfl)<|zTt (i := 38) rfl rfl rfl c2 (zMi rfl)<|zOn (i := 39) rfl<|za rfl rfl c2<|zg (ahead_spec f hE hn ((i : Int), (k : Int)) block at_ (froN eI (kidsR f)) .any) rfl<|z6<|zTk (i := 40) rfl (zPt rfl c2 rfl)<|zDn ?_
       exact ⟨_, zR11, zR1, zLe, by rw [hq2, show decide (c = xa) = true from c1, show decide (d = xb) = true from c2]; rfl⟩
      ·refine zTf (i := 30) rfl rfl rfl c2<|zTf (i := 31) rfl rfl rfl c2<|zTf (i := 32) rfl rfl rfl c2<|zTf (i := 33) rfl rfl rfl c2<|zTf (i := 34) rfl rfl rfl c2<|zTf (i := 35) rfl rfl rfl c2<|zTf (i := 36) rfl rfl rfl c2<|zTf (i := 37) rfl rfl rfl c2<|zTf (i := 38) rfl rfl rfl c2<|zTf (i := 39) rfl rfl rfl c2<|zTk (i := 40) rfl (zPf rfl c2 rfl)<|zDn ?_
       exact ⟨_, zR11, zR1, zLe, by rw [hq2, show decide (c = xa) = true from c1, show decide (d = xb) = false from c2]; rfl⟩
     ·refine zTf (i := 19) rfl rfl rfl c1<|zTf (i := 20) rfl rfl rfl c1<|zTf (i := 21) rfl rfl rfl c1<|zTf (i := 22) rfl rfl rfl c1<|zTf (i := 23) rfl rfl rfl c1<|zTf (i := 24) rfl rfl rfl c1<|zTf (i := 25) rfl rfl rfl c1<|zTf (i := 26) rfl rfl rfl c1<|zTf (i := 27) rfl rfl rfl c1<|zTk (i := 28) rfl (zPf rfl c1 rfl)<|zTk (i := 29) rfl (zMb rfl)<|zTf (i := 30) rfl rfl rfl rfl<|zTf (i := 31) rfl rfl rfl rfl<|zTf (i := 32) rfl rfl rfl rfl<|zTf (i := 33) rfl rfl rfl rfl<|zTf (i := 34) rfl rfl rfl rfl<|zTf (i := 35) rfl rfl rfl rfl<|zTf (i := 36) rfl rfl rfl rfl<|zTf (i := 37) rfl rfl rfl rfl<|zTf (i := 38) rfl rfl rfl rfl<|zTf (i := 39) rfl rfl rfl rfl<|zTk (i := 40) rfl (zPf rfl rfl rfl)<|zDn ?_
      exact ⟨_, zR11, zR1, zLe, by rw [hq2, show decide (c = xa) = false from c1]; rfl⟩
    ·rintro u hu
     subst hu
     refine zy rfl (fun cq => ?_) (fun cq => ?_)
     ·refine zb<|z8 rfl<|z2 (zAb rfl)<|z6<|zh<|zk (x := .bool _) rfl ?_
      exact jb (range_any_hit hi2 (by rw [chkI_at hget]; exact any_hit hzi cq)).symm
     ·refine ze<|z8 rfl<|z2 (yb rfl rfl (by unfold I64; omega))<|z2 (zMi rfl)<|z6 ?_
      exact ⟨k + 1, zR10, zR1, zLe, ⟨hk2, any_take hzi hkall (by simpa using cq)⟩, by omega⟩
   ·have hq2 : chkQ f (x.op + 19) x.args i block at_ b.insts.zipIdx[k] = false := by rw [hq, qr hop]; rfl
    refine zb<|y7 (fun j => false) (by kernel_rfl) rfl (zo (.rest _))<|zTk (i := 0) rfl (zc underlying33 rfl sizeOf31 (by decide) rfl rfl)<|zTk (i := 1) rfl (zLi isAgg31 rfl)<|zTk (i := 2) rfl (zc underlying33 rfl sizeOf31 (by decide) rfl rfl)<|zTk (i := 3) rfl (zLi isAgg31 rfl)<|zTk (i := 4) rfl (Gv.addW rfl rfl)<|zTk (i := 5) rfl (Gv.subW rfl rfl)<|zTk (i := 6) rfl (y3 rfl rfl)<|zTk (i := 7) rfl (zMb rfl)<|zTf (i := 8) rfl rfl rfl (qr (by rw [wrap_fit (z := 21 + x.op) (by unfold is64; omega), wrap_fit (z := 21 + x.op - 2) (by unfold is64; omega)]; omega))<|zTf (i := 9) rfl rfl rfl (qr (by rw [wrap_fit (z := 21 + x.op) (by unfold is64; omega), wrap_fit (z := 21 + x.op - 2) (by unfold is64; omega)]; omega))<|zTf (i := 10) rfl rfl rfl (qr (by rw [wrap_fit (z := 21 + x.op) (by unfold is64; omega), wrap_fit (z := 21 + x.op - 2) (by unfold is64; omega)]; omega))<|zTf (i := 11) rfl rfl rfl (qr (by rw [wrap_fit (z := 21 + x.op) (by unfold is64; omega), wrap_fit (z := 21 + x.op - 2) (by unfold is64; omega)]; omega))<|zTf (i := 12) rfl rfl rfl (qr (by rw [wrap_fit (z := 21 + x.op) (by unfold is64; omega), wrap_fit (z := 21 + x.op - 2) (by unfold is64; omega)]; omega))<|zTf (i := 13) rfl rfl rfl (qr (by rw [wrap_fit (z := 21 + x.op) (by unfold is64; omega), wrap_fit (z := 21 + x.op - 2) (by unfold is64; omega)]; omega))<|zTf (i := 14) rfl rfl rfl (qr (by rw [wrap_fit (z := 21 + x.op) (by unfold is64; omega), wrap_fit (z := 21 + x.op - 2) (by unfold is64; omega)]; omega))<|zTf (i := 15) rfl rfl rfl (qr (by rw [wrap_fit (z := 21 + x.op) (by unfold is64; omega), wrap_fit (z := 21 + x.op - 2) (by unfold is64; omega)]; omega))<|zTf (i := 16) rfl rfl rfl (qr (by rw [wrap_fit (z := 21 + x.op) (by unfold is64; omega), wrap_fit (z := 21 + x.op - 2) (by unfold is64; omega)]; omega))<|zTk (i := 17) rfl (zPf rfl (qr (by rw [wrap_fit (z := 21 + x.op) (by unfold is64; omega), wrap_fit (z := 21 + x.op - 2) (by unfold is64; omega)]; omega)) rfl)<|zTk (i := 18) rfl (zMb rfl)<|zTf (i := 19) rfl rfl rfl rfl<|zTf (i := 20) rfl rfl rfl rfl<|zTf (i := 21) rfl rfl rfl rfl<|zTf (i := 22) rfl rfl rfl rfl<|zTf (i := 23) rfl rfl rfl rfl<|zTf (i := 24) rfl rfl rfl rfl<|zTf (i := 25) rfl rfl rfl rfl<|zTf (i := 26) rfl rfl rfl rfl<|zTf (i := 27) rfl rfl rfl rfl<|zTk (i := 28) rfl (zPf rfl rfl rfl)<|zTk (i := 29) rfl (zMb rfl)<|zTf (i := 30) rfl rfl rfl rfl<|zTf (i := 31) rfl rfl rfl rfl<|zTf (i := 32) rfl rfl rfl rfl<|zTf (i := 33) rfl rfl rfl rfl<|zTf (i := 34) rfl rfl rfl rfl<|zTf (i := 35) rfl rfl rfl rfl<|zTf (i := 36) rfl rfl rfl rfl<|zTf (i := 37) rfl rfl rfl rfl<|zTf (i := 38) rfl rfl rfl rfl ?_
    refine zTf (i := 39) rfl rfl rfl rfl<|zTk (i := 40) rfl (zPf rfl rfl rfl)<|zDn<|yi rfl rfl<|ze<|z8 rfl<|z2 (yb rfl rfl (by unfold I64; omega))<|z2 (zMi rfl)<|z6 ?_
    exact ⟨k + 1, zR10, zR1, zLe, ⟨hk2, any_take hzi hkall hq2⟩, by omega⟩
  ·have hkn : k = b.insts.length := by simp at ck; omega
   rw [hkn, show b.insts.length = b.insts.zipIdx.length by simp, qk] at hkall
   refine y8<|z8 rfl<|z2 (yb rfl rfl (by unfold I64; omega))<|z2 (zMi rfl)<|z6 ?_
   exact ⟨i + 1, zR6, zR1, zLe, ⟨hi2, range_any_succ hiall (by rw [chkI_at hget]; exact hkall)⟩, by omega⟩
 ·have hin : i = f.blocks.length := by simp at ci; omega
  subst hin
  refine y8<|zb<|z8 rfl<|z2 (zAb rfl)<|z6<|zh<|zk (x := .bool _) rfl ?_
  exact jb hiall.symm
end Go.Proofs.YtjnpcfpecilejaaGreatDoor
