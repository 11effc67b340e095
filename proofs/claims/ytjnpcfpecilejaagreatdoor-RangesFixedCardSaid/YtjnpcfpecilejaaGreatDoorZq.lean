/- The program's rule for whoever asks; tables of ranges. Of programs that are little. -/
import Derived.Test.YtjnpcfpecilejaaGreatDoorZn
import Derived.Test.YtjnpcfpecilejaaGreatDoorZg
import Derived.Test.YtjnpcfpecilejaaGreatDoorZp
set_option linter.unusedVariables false
set_option linter.unusedSimpArgs false
set_option linter.unusedSectionVars false
namespace Go.Proofs.YtjnpcfpecilejaaGreatDoor
open Go.Proofs.Tryz
open Go.Proofs Go.Lib Go.Shelf Go.RowKit
set_option maxRecDepth 20000
variable {E : World}
theorem sum_take {α : Type} (g : α → Nat) : ∀ (l : List α) (k : Nat), ((l.take k).map g).sum ≤ (l.map g).sum
 | [], k => by simp
 | x :: l, 0 => by simp
 | x :: l, k + 1 => by
  have := sum_take g l k
  simp only [List.take_succ_cons, List.map_cons, List.sum_cons]; omega
theorem wP_take (l : List PPhi) (k : Nat) : wP (l.take k) ≤ wP l := sum_take _ l k
theorem wX_take (l : List PInst) (k : Nat) : wX (l.take k) ≤ wX l := sum_take _ l k
theorem little_le {f : PFunc} (h : little f) {k : Nat} (hk : k < f.blocks.length) : wV f.vars + wBs (f.blocks.take k) + wB f.blocks[k] ≤ 4000 := by
 have h1 := h.2.2.2.2.2 (fun e => by rw [e] at hk; exact absurd hk (Nat.not_lt_zero _))
 have h2 : wBs (f.blocks.take (k + 1)) ≤ wBs f.blocks := sum_take _ f.blocks (k + 1)
 rw [wBs_succ hk] at h2
 omega
set_option maxHeartbeats 8000000 in
theorem fewIff_spec (f : PFunc) (hf : wFunc f) : ACall Tryz.prog E 12 [.agg (encF f)] [] (fun x _ => ∃ b : Bool, x = .bool b ∧ (b = true ↔ little f)) := by
 obtain ⟨hf1, hf2, hf3, hf4⟩ := hf
 have hl1 := hf1.lt
 have hl3 := hf3.lt
 refine zx func12 rfl (by decide) rfl<|za<|z7 rfl<|yk (cs := _) rfl rfl rfl<|z2 (zd (v := .bool _) rfl)<|z6<|za<|za<|yt (γ := Unit) [1] (fun u => [(27, .bool (few1 f))]) (fun u => []) (fun u => True) ?_ (fun _ _ h => h) ?_
 ·refine z7 rfl<|z2 (zg underlying26 rfl sizeOf22 (by decide) rfl rfl)<|z2 (zf (c := .fro _ _) isAgg22 rfl)<|z2 (yb underlying22 rfl)<|z2 (q9 rfl rfl)<|z2 (zc (v := .bool _) rfl)<|y3 (s := 16) rfl (fun c1 => ?_) (fun c1 => ?_)
  ·refine z8 rfl rfl c1<|z8 rfl rfl c1<|z8 rfl rfl c1<|z8 rfl rfl c1<|z2 (zu (v := .bool _) rfl c1 rfl)<|z2 (zc (v := .bool _) rfl)<|z8 rfl rfl rfl<|z8 rfl rfl rfl<|z8 rfl rfl rfl<|z8 rfl rfl rfl<|z2 (zu (v := .bool _) rfl rfl rfl)<|z6 ?_
   exact ⟨(), ⟨rfl, trivial⟩, ⟨jb (by simp_all [few1] <;> grind), trivial⟩, ⟨_, (.refl _), rfl⟩, trivial⟩
  ·refine zb rfl rfl c1<|z2 (zg underlying26 rfl sizeOf24 (by decide) rfl rfl)<|zb rfl rfl c1<|z2 (zf (c := .fro _ _) isAgg24 rfl)<|zb rfl rfl c1<|z2 (yb underlying24 rfl)<|zb rfl rfl c1<|z2 (q9 rfl rfl)<|z2 (zt (v := .bool _) rfl c1 rfl)<|z2 (zc (v := .bool _) rfl)<|y3 (s := 22) rfl (fun c2 => ?_) (fun c2 => ?_)
   ·refine z8 rfl rfl c2<|z8 rfl rfl c2<|z8 rfl rfl c2<|z8 rfl rfl c2<|z2 (zu (v := .bool _) rfl c2 rfl)<|z6 ?_
    exact ⟨(), ⟨rfl, trivial⟩, ⟨jb (by simp_all [few1] <;> grind), trivial⟩, ⟨_, (.refl _), rfl⟩, trivial⟩
   ·refine zb rfl rfl c2<|z2 (zg underlying26 rfl sizeOf23 (by decide) rfl rfl)<|zb rfl rfl c2<|z2 (zf (c := .fro _ _) isAgg23 rfl)<|zb rfl rfl c2<|z2 (yb underlying23 rfl)<|zb rfl rfl c2<|z2 (q9 rfl rfl)<|z2 (zt (v := .bool _) rfl c2 rfl)<|z6 ?_
    exact ⟨(), ⟨rfl, trivial⟩, ⟨jb (by simp_all [few1] <;> grind), trivial⟩, ⟨_, (.refl _), rfl⟩, trivial⟩
 ·rintro _ _
  refine y9 rfl (fun c1 => ?_) (fun c1 => ?_)
  ·refine za<|z7 rfl<|z2 (zd (v := .bool _) rfl)<|z6<|zo<|zw (x := .bool _) rfl ?_
   exact ⟨_, rfl, fun h => (by cases h), fun hl => absurd hl (fun hl => by have h1 := hl.1; have h2 := hl.2.1; have h3 := hl.2.2.1; unfold few1 at c1; simp at c1; omega)⟩
  ·have hsz : f.vars.length ≤ 100 ∧ f.blocks.length ≤ 40 ∧ f.params.length ≤ 20 := by unfold few1 at c1; simp at c1; omega
   refine zp<|za<|z7 rfl<|z2 (zd (v := .int _ _) rfl)<|z6<|za<|za<|z7 rfl<|z2 (zg underlying26 rfl sizeOf22 (by decide) rfl rfl)<|z2 (zf (c := .fro _ _) isAgg22 rfl)<|z2 (yb underlying22 rfl)<|z2 (zc (v := .int _ _) rfl)<|z6<|zq<|yj (γ := Nat) [1, 29, 30] (fun k => [(31, .int .i64 k), (3, .int .i64 (wV (f.vars.take k)))]) (fun k => []) (fun k => k ≤ f.vars.length ∧ wV (f.vars.take k) ≤ 400 * k ∧ ∀ v ∈ f.vars.take k, v.name.size ≤ 400) (fun k => f.vars.length - k) 0 ⟨rfl, rfl, trivial⟩ ⟨_, (.refl _), rfl⟩ (⟨Nat.zero_le _, Nat.le_refl _, by simp⟩) ?_
   rintro k ⟨hk, hw, hv⟩
   refine za<|z7 rfl<|z2 (yn rfl rfl)<|z6<|za<|zy rfl (fun ck => ?_) (fun ck => ?_)
   ·have hk1 : k < f.vars.length := by omega
    have hs := wV_succ hk1
    refine zp<|za<|zq<|za<|z7 rfl<|z2 (yd underlying22 sizeOf56 rfl rfl rfl (List.getElem?_eq_getElem (by omega))) ?_
    refine z2 (zr isAgg56 sizeOf56 rfl rfl)<|zz (cs := [.str ⟨#[]⟩, .int .i64 0]) zeroValue56 rfl rfl<|fun i5 => zj sizeOf56 rfl rfl rfl rfl rfl rfl .head rfl<|z6<|za<|za<|z7 rfl<|z2 (y5 underlying56 rfl sizeOf9 (by decide) rfl rfl)<|z2 (y8 (c := .str _) isAgg9 rfl ⟨_, .head⟩ rfl)<|z2 (Gv.lenT underlying9 rfl)<|z2 (q9 rfl rfl)<|z6<|zy rfl (fun cn => ?_) (fun cn => ?_)
    ·refine za<|z7 rfl<|z2 (zd (v := .bool _) rfl)<|z6<|zo<|zw (x := .bool _) rfl ?_
     exact ⟨_, rfl, fun h => (by cases h), fun hl => absurd hl (fun hl => by have h1 := hl.2.2.2.1 _ (List.getElem_mem hk1); omega)⟩
    ·refine zp<|z7 rfl<|z2 (zc (v := .int _ _) rfl)<|z2 (y5 underlying56 rfl sizeOf9 (by decide) rfl rfl)<|z2 (y8 (c := .str _) isAgg9 rfl ⟨_, .head⟩ rfl)<|z2 (Gv.lenT underlying9 rfl)<|z2 (yl rfl rfl (by unfold I64; omega))<|z2 (zd (v := .int _ _) rfl)<|z6<|z7 rfl<|z2 (yl rfl rfl (by unfold I64; omega))<|z2 (zc (v := .int _ _) rfl)<|z6 ?_
     exact ⟨k + 1, ⟨rfl, rfl, rfl, trivial⟩, ⟨rfl, congrArg (AV.int .i64) (by rw [hs]; omega), trivial⟩, ⟨_, (.drop (.refl _)), rfl⟩, ⟨hk1, by omega, forall_take hk1 hv (by omega)⟩, by omega⟩
   ·obtain rfl : k = f.vars.length := by omega
    rw [List.take_length] at hw hv
    rw [List.take_length]
    refine yf<|za<|za<|z7 rfl<|z2 (zg underlying26 rfl sizeOf24 (by decide) rfl rfl)<|z2 (zf (c := .fro _ _) isAgg24 rfl)<|z2 (yb underlying24 rfl)<|z2 (zc (v := .int _ _) rfl)<|z6<|zq<|yj (γ := Nat) [46, 47] (fun k => [(48, .int .i64 k), (3, .int .i64 (wV f.vars + wBs (f.blocks.take k) : Nat))]) (fun k => []) (fun k => k ≤ f.blocks.length ∧ (0 < k → wV f.vars + wBs (f.blocks.take k) ≤ 4000) ∧ wBs (f.blocks.take k) ≤ 4000 ∧ ∀ b ∈ f.blocks.take k, littleB b) (fun k => f.blocks.length - k) 0 ⟨rfl, rfl, trivial⟩ ⟨_, (.refl _), rfl⟩ (⟨Nat.zero_le _, by omega, by simp [wBs], by simp⟩) ?_
    rintro k ⟨hk, hw2, hw3, hb⟩
    refine za<|z7 rfl<|z2 (yn rfl rfl)<|z6<|za<|zy rfl (fun ck => ?_) (fun ck => ?_)
    ·have hk1 : k < f.blocks.length := by omega
     obtain ⟨hb1, hb2, hb3, hb4⟩ := hf4 _ (List.getElem_mem hk1)
     have hs := wBs_succ hk1
     refine zp<|za<|zq<|za<|z7 rfl<|z2 (yd underlying24 sizeOf66 rfl rfl rfl (List.getElem?_eq_getElem (by omega))) ?_
     refine z2 (zr isAgg66 sizeOf66 rfl rfl)<|zz (cs := [.str ⟨#[]⟩, .raw (.slice none 0 0), .raw (.slice none 0 0), .int .i64 0, .int .i64 0, .int .i64 0, .int .i64 0]) zeroValue66 rfl rfl<|fun i7 => zj sizeOf66 rfl rfl rfl rfl rfl rfl .head rfl<|z6<|za<|za<|yt (γ := Unit) [3, 7, 46, 47, 48] (fun u => [(67, .bool (few2 f.blocks[k]))]) (fun u => [(i7, .cells 66 (encBlk f.blocks[k]))]) (fun u => True) ?_ (fun _ _ h => h) ?_
     ·refine z7 rfl<|z2 (y5 underlying66 rfl sizeOf9 (by decide) rfl rfl)<|z2 (y8 (c := .str _) isAgg9 rfl ⟨_, .head⟩ rfl)<|z2 (Gv.lenT underlying9 rfl)<|z2 (q9 rfl rfl)<|z2 (zc (v := .bool _) rfl)<|y3 (s := 56) rfl (fun c3 => ?_) (fun c3 => ?_)
      ·refine z8 rfl rfl c3<|z8 rfl rfl c3<|z8 rfl rfl c3<|z8 rfl rfl c3<|z2 (zu (v := .bool _) rfl c3 rfl)<|z2 (zc (v := .bool _) rfl)<|z8 rfl rfl rfl<|z8 rfl rfl rfl<|z8 rfl rfl rfl<|z8 rfl rfl rfl<|z2 (zu (v := .bool _) rfl rfl rfl)<|z6 ?_
       exact ⟨(), ⟨rfl, rfl, rfl, rfl, rfl, trivial⟩, ⟨jb (by simp_all [few2] <;> grind), trivial⟩, ⟨_, (.refl _), rfl⟩, trivial⟩
      ·refine zb rfl rfl c3<|z2 (y5 underlying66 rfl sizeOf59 (by decide) rfl rfl)<|zb rfl rfl c3<|z2 (y8 (c := .fro _ _) isAgg59 rfl ⟨_, .head⟩ rfl)<|zb rfl rfl c3<|z2 (yb underlying59 rfl)<|zb rfl rfl c3<|z2 (q9 rfl rfl)<|z2 (zt (v := .bool _) rfl c3 rfl)<|z2 (zc (v := .bool _) rfl)<|y3 (s := 62) rfl (fun c4 => ?_) (fun c4 => ?_)
       ·refine z8 rfl rfl c4<|z8 rfl rfl c4<|z8 rfl rfl c4<|z8 rfl rfl c4<|z2 (zu (v := .bool _) rfl c4 rfl)<|z6 ?_
        exact ⟨(), ⟨rfl, rfl, rfl, rfl, rfl, trivial⟩, ⟨jb (by simp_all [few2] <;> grind), trivial⟩, ⟨_, (.refl _), rfl⟩, trivial⟩
       ·refine zb rfl rfl c4<|z2 (y5 underlying66 rfl sizeOf60 (by decide) rfl rfl)<|zb rfl rfl c4<|z2 (y8 (c := .fro _ _) isAgg60 rfl ⟨_, .head⟩ rfl)<|zb rfl rfl c4<|z2 (yb underlying60 rfl)<|zb rfl rfl c4<|z2 (q9 rfl rfl)<|z2 (zt (v := .bool _) rfl c4 rfl)<|z6 ?_
        exact ⟨(), ⟨rfl, rfl, rfl, rfl, rfl, trivial⟩, ⟨jb (by simp_all [few2] <;> grind), trivial⟩, ⟨_, (.refl _), rfl⟩, trivial⟩
     ·rintro _ _
      refine y9 rfl (fun c2 => ?_) (fun c2 => ?_)
      ·refine za<|z7 rfl<|z2 (zd (v := .bool _) rfl)<|z6<|zo<|zw (x := .bool _) rfl ?_
       exact ⟨_, rfl, fun h => (by cases h), fun hl => absurd hl (fun hl => by obtain ⟨h1, h2, h3, _⟩ := hl.2.2.2.2.1 _ (List.getElem_mem hk1); unfold few2 at c2; simp at c2; omega)⟩
      ·have hsb : f.blocks[k].name.size ≤ 400 ∧ f.blocks[k].phis.length ≤ 400 ∧ f.blocks[k].insts.length ≤ 400 := by unfold few2 at c2; simp at c2; omega
       refine zp<|za<|z7 rfl<|z2 (zc (v := .int _ _) rfl)<|z2 (y5 underlying66 rfl sizeOf9 (by decide) rfl rfl)<|z2 (y8 (c := .str _) isAgg9 rfl ⟨_, .head⟩ rfl)<|z2 (Gv.lenT underlying9 rfl)<|z2 (y5 underlying66 rfl sizeOf59 (by decide) rfl rfl)<|z2 (y8 (c := .fro _ _) isAgg59 rfl ⟨_, .head⟩ rfl)<|z2 (yb underlying59 rfl)<|z2 (y5 underlying66 rfl sizeOf60 (by decide) rfl rfl)<|z2 (y8 (c := .fro _ _) isAgg60 rfl ⟨_, .head⟩ rfl)<|z2 (yb underlying60 rfl)<|z2 (yl rfl rfl (by unfold I64; omega))<|z2 (Gv.mul rfl rfl (by unfold I64; omega))<|z2 (yl rfl rfl (by unfold I64; omega))<|z2 (yl rfl rfl (by unfold I64; omega))<|z2 (zd (v := .int _ _) rfl)<|z6<|za<|za<|z7 rfl<|z2 (y5 underlying66 rfl sizeOf59 (by decide) rfl rfl)<|z2 (y8 (c := .fro _ _) isAgg59 rfl ⟨_, .head⟩ rfl)<|z2 (yb underlying59 rfl)<|z2 (zc (v := .int _ _) rfl)<|z6<|zq<|yj (γ := Nat) [7, 46, 47, 48, 83, 84] (fun m => [(85, .int .i64 m), (3, .int .i64 (wV f.vars + wBs (f.blocks.take k) + (f.blocks[k].name.size + 10 * (f.blocks[k].phis.length + f.blocks[k].insts.length)) + wP (f.blocks[k].phis.take m) : Nat))]) (fun m => [(i7, .cells 66 (encBlk f.blocks[k]))]) (fun m => m ≤ f.blocks[k].phis.length ∧ wP (f.blocks[k].phis.take m) ≤ 800 * m ∧ ∀ p ∈ f.blocks[k].phis.take m, p.args.length ≤ 400 ∧ p.from_.length ≤ 400) (fun m => f.blocks[k].phis.length - m) 0 ⟨rfl, (congrArg (AV.int .i64) (by simp [wP] <;> omega)), trivial⟩ ⟨_, (.refl _), rfl⟩ (⟨Nat.zero_le _, by simp [wP], by simp⟩) ?_
       rintro m ⟨hm, hwp, hp⟩
       refine za<|z7 rfl<|z2 (yn rfl rfl)<|z6<|za<|zy rfl (fun cm => ?_) (fun cm => ?_)
       ·have hm1 : m < f.blocks[k].phis.length := by omega
        obtain ⟨hq1, hq2⟩ := hb3 _ (List.getElem_mem hm1)
        have hl6 := hq1.lt
        have hl7 := hq2.lt
        have hs2 := wP_succ hm1
        refine zp<|za<|zq<|za<|z7 rfl<|z2 (yd underlying59 sizeOf95 rfl rfl rfl (List.getElem?_eq_getElem (by omega))) ?_
        refine z2 (zr isAgg95 sizeOf95 rfl rfl)<|zz (cs := [.int .i64 0, .raw (.slice none 0 0), .raw (.slice none 0 0)]) zeroValue95 rfl rfl<|fun i9 => zj sizeOf95 rfl rfl rfl rfl rfl rfl .head rfl<|z6<|za<|za<|yt (γ := Unit) [3, 7, 9, 46, 47, 48, 83, 84, 85] (fun u => [(102, .bool (decide ((4000 : Int) < (wV f.vars + wBs (f.blocks.take k) + (f.blocks[k].name.size + 10 * (f.blocks[k].phis.length + f.blocks[k].insts.length)) + wP (f.blocks[k].phis.take m) : Nat)) || (decide ((400 : Int) < f.blocks[k].phis[m].args.length) || decide ((400 : Int) < f.blocks[k].phis[m].from_.length))))]) (fun u => [(i9, .cells 95 (encPhi f.blocks[k].phis[m])), (i7, .cells 66 (encBlk f.blocks[k]))]) (fun u => True) ?_ (fun _ _ h => h) ?_
        ·refine z7 rfl<|z2 (zc (v := .int _ _) rfl)<|z2 (q9 rfl rfl)<|z2 (zc (v := .bool _) rfl)<|y3 (s := 91) rfl (fun c5 => ?_) (fun c5 => ?_)
         ·refine z8 rfl rfl c5<|z8 rfl rfl c5<|z8 rfl rfl c5<|z8 rfl rfl c5<|z2 (zu (v := .bool _) rfl c5 rfl)<|z2 (zc (v := .bool _) rfl)<|z8 rfl rfl rfl<|z8 rfl rfl rfl<|z8 rfl rfl rfl<|z8 rfl rfl rfl<|z2 (zu (v := .bool _) rfl rfl rfl)<|z6 ?_
          exact ⟨(), ⟨rfl, rfl, rfl, rfl, rfl, rfl, rfl, rfl, rfl, trivial⟩, ⟨jb (by simp_all <;> grind), trivial⟩, ⟨_, (.refl _), rfl⟩, trivial⟩
         ·refine zb rfl rfl c5<|z2 (y5 underlying95 rfl sizeOf23 (by decide) rfl rfl)<|zb rfl rfl c5<|z2 (y8 (c := .fro _ _) isAgg23 rfl ⟨_, .head⟩ rfl)<|zb rfl rfl c5<|z2 (yb underlying23 rfl)<|zb rfl rfl c5<|z2 (q9 rfl rfl)<|z2 (zt (v := .bool _) rfl c5 rfl)<|z2 (zc (v := .bool _) rfl)<|y3 (s := 97) rfl (fun c6 => ?_) (fun c6 => ?_)
          ·refine z8 rfl rfl c6<|z8 rfl rfl c6<|z8 rfl rfl c6<|z8 rfl rfl c6<|z2 (zu (v := .bool _) rfl c6 rfl)<|z6 ?_
           exact ⟨(), ⟨rfl, rfl, rfl, rfl, rfl, rfl, rfl, rfl, rfl, trivial⟩, ⟨jb (by simp_all <;> grind), trivial⟩, ⟨_, (.refl _), rfl⟩, trivial⟩
          ·refine zb rfl rfl c6<|z2 (y5 underlying95 rfl sizeOf23 (by decide) rfl rfl)<|zb rfl rfl c6<|z2 (y8 (c := .fro _ _) isAgg23 rfl ⟨_, .head⟩ rfl)<|zb rfl rfl c6<|z2 (yb underlying23 rfl)<|zb rfl rfl c6<|z2 (q9 rfl rfl)<|z2 (zt (v := .bool _) rfl c6 rfl)<|z6 ?_
           exact ⟨(), ⟨rfl, rfl, rfl, rfl, rfl, rfl, rfl, rfl, rfl, trivial⟩, ⟨jb (by simp_all <;> grind), trivial⟩, ⟨_, (.refl _), rfl⟩, trivial⟩
        ·rintro _ _
         refine y9 rfl (fun cp => ?_) (fun cp => ?_)
         ·refine za<|z7 rfl<|z2 (zd (v := .bool _) rfl)<|z6<|zo<|zw (x := .bool _) rfl ?_
          exact ⟨_, rfl, fun h => (by cases h), fun hl => absurd hl (fun hl => by obtain ⟨_, _, _, h4, _⟩ := hl.2.2.2.2.1 _ (List.getElem_mem hk1); have h5 := h4 _ (List.getElem_mem hm1); have h9 := little_le hl hk1; have hwb : wB f.blocks[k] = f.blocks[k].name.size + 10 * (f.blocks[k].phis.length + f.blocks[k].insts.length) + wP f.blocks[k].phis + wX f.blocks[k].insts := rfl; have h10 := wP_take f.blocks[k].phis m; simp only [Bool.or_eq_true, decide_eq_true_eq] at cp; omega)⟩
         ·rcases Bool.or_eq_false_iff.1 cp with ⟨a1, a2⟩
          rcases Bool.or_eq_false_iff.1 a2 with ⟨a3, a4⟩
          have a3 := of_decide_eq_false a3
          have a4 := of_decide_eq_false a4
          refine zp<|z7 rfl<|z2 (zc (v := .int _ _) rfl)<|z2 (y5 underlying95 rfl sizeOf23 (by decide) rfl rfl)<|z2 (y8 (c := .fro _ _) isAgg23 rfl ⟨_, .head⟩ rfl)<|z2 (yb underlying23 rfl)<|z2 (y5 underlying95 rfl sizeOf23 (by decide) rfl rfl)<|z2 (y8 (c := .fro _ _) isAgg23 rfl ⟨_, .head⟩ rfl)<|z2 (yb underlying23 rfl)<|z2 (yl rfl rfl (by unfold I64; omega))<|z2 (yl rfl rfl (by unfold I64; omega))<|z2 (zd (v := .int _ _) rfl)<|z6<|z7 rfl<|z2 (yl rfl rfl (by unfold I64; omega))<|z2 (zc (v := .int _ _) rfl)<|z6 ?_
          exact ⟨m + 1, ⟨rfl, rfl, rfl, rfl, rfl, rfl, trivial⟩, ⟨rfl, congrArg (AV.int .i64) (by rw [hs2]; omega), trivial⟩, ⟨_, (.drop (.refl _)), rfl⟩, ⟨hm1, by omega, forall_take hm1 hp ⟨by omega, by omega⟩⟩, by omega⟩
       ·obtain rfl : m = f.blocks[k].phis.length := by omega
        rw [List.take_length] at hwp hp
        rw [List.take_length]
        refine yf<|za<|za<|z7 rfl<|z2 (y5 underlying66 rfl sizeOf60 (by decide) rfl rfl)<|z2 (y8 (c := .fro _ _) isAgg60 rfl ⟨_, .head⟩ rfl)<|z2 (yb underlying60 rfl)<|z2 (zc (v := .int _ _) rfl)<|z6<|zq<|yj (γ := Nat) [46, 47, 48, 114, 115] (fun m => [(116, .int .i64 m), (3, .int .i64 (wV f.vars + wBs (f.blocks.take k) + (f.blocks[k].name.size + 10 * (f.blocks[k].phis.length + f.blocks[k].insts.length)) + wP f.blocks[k].phis + wX (f.blocks[k].insts.take m) : Nat))]) (fun m => [(i7, .cells 66 (encBlk f.blocks[k]))]) (fun m => m ≤ f.blocks[k].insts.length ∧ wX (f.blocks[k].insts.take m) ≤ 400 * m ∧ ∀ p ∈ f.blocks[k].insts.take m, p.args.length ≤ 400) (fun m => f.blocks[k].insts.length - m) 0 ⟨rfl, (congrArg (AV.int .i64) (by simp [wX] <;> omega)), trivial⟩ ⟨_, (.refl _), rfl⟩ (⟨Nat.zero_le _, by simp [wX], by simp⟩) ?_
        rintro m ⟨hm, hwx, hx⟩
        refine za<|z7 rfl<|z2 (yn rfl rfl)<|z6<|za<|zy rfl (fun cm => ?_) (fun cm => ?_)
        ·have hm1 : m < f.blocks[k].insts.length := by omega
         have hq1 := hb4 _ (List.getElem_mem hm1)
         have hl6 := hq1.lt
         have hs2 := wX_succ hm1
         refine zp<|za<|zq<|za<|z7 rfl<|z2 (yd underlying60 sizeOf33 rfl rfl rfl (List.getElem?_eq_getElem (by omega))) ?_
         refine z2 (zr isAgg33 sizeOf33 rfl rfl)<|zz (cs := [.int .i64 0, .int .i64 0, .raw (.slice none 0 0), .int .i64 0]) zeroValue33 rfl rfl<|fun i11 => zj sizeOf33 rfl rfl rfl rfl rfl rfl .head rfl<|z6<|za<|za<|yt (γ := Unit) [3, 11, 46, 47, 48, 114, 115, 116] (fun u => [(127, .bool (decide ((4000 : Int) < (wV f.vars + wBs (f.blocks.take k) + (f.blocks[k].name.size + 10 * (f.blocks[k].phis.length + f.blocks[k].insts.length)) + wP f.blocks[k].phis + wX (f.blocks[k].insts.take m) : Nat)) || decide ((400 : Int) < f.blocks[k].insts[m].args.length)))]) (fun u => [(i11, .cells 33 (encInst f.blocks[k].insts[m])), (i7, .cells 66 (encBlk f.blocks[k]))]) (fun u => True) ?_ (fun _ _ h => h) ?_
         ·refine z7 rfl<|z2 (zc (v := .int _ _) rfl)<|z2 (q9 rfl rfl)<|z2 (zc (v := .bool _) rfl)<|y3 (s := 122) rfl (fun c7 => ?_) (fun c7 => ?_)
          ·refine z8 rfl rfl c7<|z8 rfl rfl c7<|z8 rfl rfl c7<|z8 rfl rfl c7<|z2 (zu (v := .bool _) rfl c7 rfl)<|z6 ?_
           exact ⟨(), ⟨rfl, rfl, rfl, rfl, rfl, rfl, rfl, rfl, trivial⟩, ⟨jb (by simp_all <;> grind), trivial⟩, ⟨_, (.refl _), rfl⟩, trivial⟩
          ·refine zb rfl rfl c7<|z2 (y5 underlying33 rfl sizeOf23 (by decide) rfl rfl)<|zb rfl rfl c7<|z2 (y8 (c := .fro _ _) isAgg23 rfl ⟨_, .head⟩ rfl)<|zb rfl rfl c7<|z2 (yb underlying23 rfl)<|zb rfl rfl c7<|z2 (q9 rfl rfl)<|z2 (zt (v := .bool _) rfl c7 rfl)<|z6 ?_
           exact ⟨(), ⟨rfl, rfl, rfl, rfl, rfl, rfl, rfl, rfl, trivial⟩, ⟨jb (by simp_all <;> grind), trivial⟩, ⟨_, (.refl _), rfl⟩, trivial⟩
         ·rintro _ _
          refine y9 rfl (fun cp => ?_) (fun cp => ?_)
          ·refine za<|z7 rfl<|z2 (zd (v := .bool _) rfl)<|z6<|zo<|zw (x := .bool _) rfl ?_
           exact ⟨_, rfl, fun h => (by cases h), fun hl => absurd hl (fun hl => by obtain ⟨_, _, _, _, h4⟩ := hl.2.2.2.2.1 _ (List.getElem_mem hk1); have h5 := h4 _ (List.getElem_mem hm1); have h9 := little_le hl hk1; have hwb : wB f.blocks[k] = f.blocks[k].name.size + 10 * (f.blocks[k].phis.length + f.blocks[k].insts.length) + wP f.blocks[k].phis + wX f.blocks[k].insts := rfl; have h10 := wX_take f.blocks[k].insts m; simp only [Bool.or_eq_true, decide_eq_true_eq] at cp; omega)⟩
          ·rcases Bool.or_eq_false_iff.1 cp with ⟨a1, a2⟩
           have a2 := of_decide_eq_false a2
           refine zp<|z7 rfl<|z2 (zc (v := .int _ _) rfl)<|z2 (y5 underlying33 rfl sizeOf23 (by decide) rfl rfl)<|z2 (y8 (c := .fro _ _) isAgg23 rfl ⟨_, .head⟩ rfl)<|z2 (yb underlying23 rfl)<|z2 (yl rfl rfl (by unfold I64; omega))<|z2 (zd (v := .int _ _) rfl)<|z6<|z7 rfl<|z2 (yl rfl rfl (by unfold I64; omega))<|z2 (zc (v := .int _ _) rfl)<|z6 ?_
           exact ⟨m + 1, ⟨rfl, rfl, rfl, rfl, rfl, trivial⟩, ⟨rfl, congrArg (AV.int .i64) (by rw [hs2]; omega), trivial⟩, ⟨_, (.drop (.refl _)), rfl⟩, ⟨hm1, by omega, forall_take hm1 hx (by omega)⟩, by omega⟩
        ·obtain rfl : m = f.blocks[k].insts.length := by omega
         rw [List.take_length] at hwx hx
         rw [List.take_length]
         refine yf<|za<|z7 rfl<|z2 (zc (v := .int _ _) rfl)<|z2 (q9 rfl rfl)<|z6<|zy rfl (fun cz => ?_) (fun cz => ?_)
         ·refine za<|z7 rfl<|z2 (zd (v := .bool _) rfl)<|z6<|zo<|zw (x := .bool _) rfl ?_
          exact ⟨_, rfl, fun h => (by cases h), fun hl => absurd hl (fun hl => by have h9 := little_le hl hk1; have hwb : wB f.blocks[k] = f.blocks[k].name.size + 10 * (f.blocks[k].phis.length + f.blocks[k].insts.length) + wP f.blocks[k].phis + wX f.blocks[k].insts := rfl; omega)⟩
         ·have hwb : wB f.blocks[k] = f.blocks[k].name.size + 10 * (f.blocks[k].phis.length + f.blocks[k].insts.length) + wP f.blocks[k].phis + wX f.blocks[k].insts := rfl
          refine zp<|z7 rfl<|z2 (yl rfl rfl (by unfold I64; omega))<|z2 (zc (v := .int _ _) rfl)<|z6 ?_
          exact ⟨k + 1, ⟨rfl, rfl, trivial⟩, ⟨rfl, congrArg (AV.int .i64) (by rw [hs]; omega), trivial⟩, ⟨_, (.drop (.refl _)), rfl⟩, ⟨hk1, by omega, by omega, forall_take hk1 hb ⟨hsb.1, hsb.2.1, hsb.2.2, hp, hx⟩⟩, by omega⟩
    ·obtain rfl : k = f.blocks.length := by omega
     rw [List.take_length] at hw2 hw3 hb
     refine yf<|za<|z7 rfl<|z2 (zd (v := .bool _) rfl)<|z6<|zo<|zw (x := .bool _) rfl ?_
     exact ⟨_, rfl, fun _ => ⟨hsz.1, hsz.2.1, hsz.2.2, hv, hb, fun hne => hw2 (List.length_pos_iff.2 hne)⟩, fun _ => rfl⟩
theorem lawShaped2_spec (f : PFunc) (hf : okFunc f) (hn : okNames f) (hL : Letters E) : AFun Tryz.prog E 119 [.agg (encF f)] (.bool (decide (ShapedP f))) := by
 refine zx func119 rfl (by decide) rfl<|za<|z7 rfl<|yk (cs := _) rfl rfl rfl<|z2 (zd (v := .bool _) rfl)<|z6<|za<|z7 rfl<|z2 (zr isAgg26 sizeOf26 rfl rfl)<|zh (refShaped_spec _ (by assumption) (by assumption) hL) rfl<|z2 (zd (v := .bool _) rfl)<|z6<|zo<|zw (x := .bool _) rfl ?_
 rfl
noncomputable def fewB (f : PFunc) : Bool := @decide (little f) (Classical.propDecidable _)
theorem fewB_iff (f : PFunc) : fewB f = true ↔ little f := by unfold fewB; exact @decide_eq_true_iff _ (Classical.propDecidable _)
theorem fewT_spec (f : PFunc) (hf : wFunc f) : AFun Tryz.prog E 12 [.agg (encF f)] (.bool (fewB f)) :=
 (fewIff_spec f hf).mono fun x O' ⟨b, e, h⟩ => by
  rw [e]
  congr 1
  rw [Bool.eq_iff_iff, h, fewB_iff]
theorem lawTyped8_spec (f : PFunc) (hf : small f) (hL : Letters E) : AFun Tryz.prog E 75 [.agg (encF f)] (.bool (typedB f)) := by
 have hs := lawShaped2_spec (E := E) f hf.ok hf.names hL
 refine zx func75 rfl (by decide) rfl<|za<|z7 rfl<|yk (cs := _) rfl rfl rfl<|z2 (zd (v := .bool _) rfl)<|z6<|za<|z7 rfl<|z2 (zr isAgg26 sizeOf26 rfl rfl)<|zh (hs) rfl ?_
 by_cases g4 : ShapedP f
 ·refine z2 (zc (v := .bool _) rfl)<|zb rfl rfl (decide_eq_true g4)<|z2 (zr isAgg26 sizeOf26 rfl rfl)<|zb rfl rfl (decide_eq_true g4)<|zh (refTyped_spec f hf g4) rfl<|z2 (zu (v := .bool _) rfl (decide_eq_true g4) rfl)<|z2 (zd (v := .bool _) rfl)<|z6<|zo<|zw (x := .bool _) rfl ?_
  exact jb (by unfold typedB; rw [shapedB_eq, decide_eq_true g4]; rfl)
 ·refine z2 (zc (v := .bool _) rfl)<|z8 rfl rfl (decide_eq_false g4)<|z8 rfl rfl (decide_eq_false g4)<|z2 (zt (v := .bool _) rfl (decide_eq_false g4) rfl)<|z2 (zd (v := .bool _) rfl)<|z6<|zo<|zw (x := .bool _) rfl ?_
  exact jb (by unfold typedB; rw [shapedB_eq, decide_eq_false g4]; rfl)
theorem lawTyped_spec (f : PFunc) (hw : wFunc f) (hL : Letters E) : AFun Tryz.prog E 37 [.agg (encF f)] (.bool (fewB f && typedB f)) := by
 refine zx func37 rfl (by decide) rfl<|za<|z7 rfl<|yk (cs := _) rfl rfl rfl<|z2 (zd (v := .bool _) rfl)<|z6<|za<|z7 rfl<|z2 (zr isAgg26 sizeOf26 rfl rfl)<|zh (fewT_spec f hw) rfl<|z2 (zc (v := .bool _) rfl)<|y3 (s := 5) rfl (fun g => ?_) (fun g => ?_)
 ·refine zb rfl rfl g<|z2 (zr isAgg26 sizeOf26 rfl rfl)<|zb rfl rfl g<|zh (lawTyped8_spec f ((fewB_iff f).1 g).small hL) rfl<|z2 (zu (v := .bool _) rfl g rfl)<|z2 (zd (v := .bool _) rfl)<|z6<|zo<|zw (x := .bool _) rfl ?_
  exact jb (by rw [g]; rfl)
 ·refine z8 rfl rfl g<|z8 rfl rfl g<|z2 (zt (v := .bool _) rfl g rfl)<|z2 (zd (v := .bool _) rfl)<|z6<|zo<|zw (x := .bool _) rfl ?_
  exact jb (by rw [g]; rfl)
noncomputable def lawSing (f : PFunc) : Bool := fewB f && typedB f && singB f
theorem and3 {a b : Bool} (h : (a && b) = true) : a = true ∧ b = true := by simpa using h
theorem singR_typed {f : PFunc} (h : typedB f = true) : singR f = singB f :=
 singR_eq (typedB_ends h) fun b hb p hp c hc => by
  have h1 := ((typedB_shaped h).2.2.2.2.2 b hb).1 p hp
  have h2 := List.all_eq_true.1 h1.2.2.2.2 c hc
  simpa [hasB] using h2
theorem lawSingle_spec (f : PFunc) (hw : wFunc f) (hL : Letters E) : AFun Tryz.prog E 24 [.agg (encF f)] (.bool (lawSing f)) := by
 refine zx func24 rfl (by decide) rfl<|za<|z7 rfl<|yk (cs := _) rfl rfl rfl<|z2 (zd (v := .bool _) rfl)<|z6<|za<|z7 rfl<|z2 (zr isAgg26 sizeOf26 rfl rfl)<|zh (lawTyped_spec f hw hL) rfl<|z2 (zc (v := .bool _) rfl)<|y3 (s := 5) rfl (fun g => ?_) (fun g => ?_)
 ·refine zb rfl rfl g<|z2 (zr isAgg26 sizeOf26 rfl rfl)<|zb rfl rfl g<|zh (refSingle_spec f (typedB_ends (and3 g).2) ((fewB_iff f).1 (and3 g).1).small (typedB_shaped (and3 g).2)) rfl<|z2 (zu (v := .bool _) rfl g rfl)<|z2 (zd (v := .bool _) rfl)<|z6<|zo<|zw (x := .bool _) rfl ?_
  exact jb (by unfold lawSing; rw [g, singR_typed (and3 g).2]; rfl)
 ·refine z8 rfl rfl g<|z8 rfl rfl g<|z2 (zt (v := .bool _) rfl g rfl)<|z2 (zd (v := .bool _) rfl)<|z6<|zo<|zw (x := .bool _) rfl ?_
  exact jb (by unfold lawSing; rw [g]; rfl)
end Go.Proofs.YtjnpcfpecilejaaGreatDoor
namespace Go.Proofs.YtjnpcfpecilejaaGreatDoor
open Go.Proofs.Tryz
open Go.Proofs Go.Lib Go.Shelf Go.RowKit
theorem pl125 : Places Tryz.prog 125 #[(0, 3), (3, 1), (4, 1), (5, 1)] [.raw (.slice none 0 0), .raw (.slice none 0 0), .raw (.slice none 0 0), .raw (.slice none 0 0), .raw (.slice none 0 0), .raw (.slice none 0 0)] := ⟨_, _, underlying125, zeroValue125, fun w => by kernel_rfl, rfl⟩
variable {E : World}
set_option maxRecDepth 20000
theorem matching_spec (op : Int) : AFun Tryz.prog E 112 [.int .i64 op] (.int .i64 (matchQ op)) := by
 refine zx func112 rfl (by decide) rfl<|za<|z7 rfl<|z2 (zd (v := .int _ _) rfl)<|z6<|za<|za<|z7 rfl<|z2 (zc (v := .int _ _) rfl)<|z6<|zq<|za<|za<|z7 rfl<|z2 (yi rfl rfl)<|z2 (zd (v := .bool _) rfl)<|z6<|yt (γ := Bool) [0] (fun u => [(4, .bool u)]) (fun u => []) (fun u => u = decide (op = 2 ∨ op = 3 ∨ op = 4)) ?_ (fun _ _ h => h) ?_
 ·refine y9 rfl (fun c1 => ?_) (fun c1 => ?_)
  ·refine zp ?_
   exact ⟨_, ⟨rfl, trivial⟩, ⟨rfl, trivial⟩, ⟨_, (.refl _), rfl⟩, by simp_all⟩
  ·refine za<|z7 rfl<|z2 (yi rfl rfl)<|z2 (zd (v := .bool _) rfl)<|z6<|y9 rfl (fun c2 => ?_) (fun c2 => ?_)
   ·refine zp ?_
    exact ⟨_, ⟨rfl, trivial⟩, ⟨rfl, trivial⟩, ⟨_, (.refl _), rfl⟩, by simp_all⟩
   ·refine z7 rfl<|z2 (yi rfl rfl)<|z2 (zd (v := .bool _) rfl)<|z6 ?_
    exact ⟨_, ⟨rfl, trivial⟩, ⟨rfl, trivial⟩, ⟨_, (.refl _), rfl⟩, by simp_all⟩
 ·rintro u hu
  subst hu
  refine zy rfl (fun c => ?_) (fun c => ?_)
  ·refine za<|z7 rfl<|z2 (zc (v := .int _ _) rfl)<|z2 (Gv.addW rfl rfl)<|z2 (Gv.subW rfl rfl)<|z2 (zd (v := .int _ _) rfl)<|z6<|zo<|zw (x := .int _ _) rfl ?_
   rw [matchQ, if_pos c, wrap_fit (z := 21 + op) (by unfold is64; omega), wrap_fit (by unfold is64; omega)]; congr 1; omega
  ·refine zp<|za<|z7 rfl<|z2 (zd (v := .int _ _) rfl)<|z6<|zo<|zw (x := .int _ _) rfl ?_
   rw [matchQ, if_neg c]
def mapsTo (f : PFunc) (es : List (Int × List Plc)) : Prop := ∀ q, mg q es = plTo f f.blocks.length q
set_option maxHeartbeats 4000000 in
theorem checks_spec (f : PFunc) (hf : small f) : ACall Tryz.prog E 111 [.agg (encF f)] [] fun x O => ∃ g : Nat × List (Int × List Plc), x = mref g.1 ∧ O = [(0, mfroO eP g.1 g.2)] ∧ mapsTo f g.2 := by
 have hn := hf.2.2.1
 have hpl : ∀ q k, k ≤ f.blocks.length → (plTo f k q).length ≤ k * 1000 := fun q k hk => plTo_len (fun b hb => (hf.2.2.2.2 b hb).2.2.1) k hk
 refine ACall.exact (γ := Nat × List (Int × List Plc)) (x := fun g => mref g.1) (M := fun g => [(0, mfroO eP g.1 g.2)]) (p := fun g => mapsTo f g.2)<|zx func111 rfl (by decide) rfl<|za<|z7 rfl<|yk (cs := _) rfl rfl rfl<|z2 (zd (v := .raw _) rfl)<|z6<|za<|z7 rfl<|AOps.makeMapN eP 109<|fun b8 => z2 (zd (v := mref _) rfl)<|z6<|za<|za<|z7 rfl<|z2 (zg underlying26 rfl sizeOf24 (by decide) rfl rfl)<|z2 (zf (c := .fro _ _) isAgg24 rfl)<|z2 (yb underlying24 rfl)<|z2 (zc (v := .int _ _) rfl)<|z6<|zq<|yj (γ := Nat × List (Int × List Plc)) [3, 10, 11] (fun g => [(12, .int .i64 g.1)]) (fun g => [(0, mnestO eP 109 b8 g.2)]) (fun g => g.1 ≤ f.blocks.length ∧ ∀ q, mg q g.2 = plTo f g.1 q) (fun g => f.blocks.length - g.1) (0, []) ⟨rfl, trivial⟩ ⟨_, (.refl _), rfl⟩ (⟨Nat.zero_le _, fun q => rfl⟩) ?_
 rintro ⟨i, es⟩ ⟨hi, hes⟩
 try dsimp only at *
 refine za<|z7 rfl<|z2 (yn rfl rfl)<|z6<|za<|zy rfl (fun ci => ?_) (fun ci => ?_)
 ·have hi2 : i < f.blocks.length := by simp at ci; omega
  obtain ⟨b, hbi⟩ : ∃ b, f.blocks[i] = b := ⟨_, rfl⟩
  have hget : f.blocks[i]? = some b := by rw [List.getElem?_eq_getElem hi2, hbi]
  obtain ⟨hb0, hb1, hb2, hb3, hb4⟩ := hf.2.2.2.2 b (hbi ▸ List.getElem_mem hi2)
  refine zp<|za<|zq<|za<|z7 rfl<|z2 (zc (v := .int _ _) rfl)<|z2 (yd (j := i) underlying24 sizeOf66 rfl rfl rfl hget)<|z2 (zr isAgg66 sizeOf66 rfl rfl)<|zz (cs := [.str ⟨#[]⟩, .raw (.slice none 0 0), .raw (.slice none 0 0), .int .i64 0, .int .i64 0, .int .i64 0, .int .i64 0]) zeroValue66 rfl rfl<|fun i5 => z2 (zd (v := .int _ _) rfl)<|zj sizeOf66 rfl rfl rfl rfl rfl rfl .head rfl<|zk (yo (t := 5) rfl .head)<|z6<|za<|z7 rfl<|z2 (zg underlying66 rfl sizeOf60 (by decide) rfl rfl)<|z2 (zf (c := .fro _ _) isAgg60 rfl)<|z2 (yb underlying60 rfl)<|z2 (zc (v := .int _ _) rfl)<|z6<|zq<|yj (γ := Nat × List (Int × List Plc)) [3, 4, 10, 11, 12, 18, 19] (fun g => [(20, .int .i64 g.1)]) (fun g => [(0, mnestO eP 109 b8 g.2)]) (fun g => g.1 ≤ b.insts.length ∧ ∀ q, mg q g.2 = plTo f i q ++ plIn q i (b.insts.take g.1)) (fun g => b.insts.length - g.1) (0, es) ⟨rfl, trivial⟩ ⟨_, (.refl _), rfl⟩ (⟨Nat.zero_le _, fun q => by rw [hes q]; unfold plIn; split <;> simp⟩) ?_
  rintro ⟨j, es⟩ ⟨hj, hes⟩
  try dsimp only at *
  refine za<|z7 rfl<|z2 (yn rfl rfl)<|z6<|za<|zy rfl (fun cj => ?_) (fun cj => ?_)
  ·have hj2 : j < b.insts.length := by simp at cj; omega
   obtain ⟨z, hz⟩ : ∃ z, b.insts[j] = z := ⟨_, rfl⟩
   have hstep : ∀ q, plTo f i q ++ plIn q i (b.insts.take (j + 1)) = mg q es ++ if isChk q ∧ z.op = q then [((i : Int), (j : Int))] else [] := fun q => by rw [plIn_succ q i hj2, hz, ← List.append_assoc, ← hes q]
   have hlen : ∀ q, (mg q es).length ≤ 2000000 := fun q => by
    have h1 := hpl q i hi
    have h2 := plIn_len q i (b.insts.take j)
    rw [List.length_take] at h2
    rw [hes q, List.length_append]; omega
   refine zp<|za<|zq<|za<|z7 rfl<|z2 (zc (v := .int _ _) rfl)<|z2 (yd (j := j) underlying60 sizeOf33 rfl rfl rfl (by rw [List.getElem?_eq_getElem hj2, hz])) ?_
   refine z2 (zr isAgg33 sizeOf33 rfl rfl)<|zz (cs := [.int .i64 0, .int .i64 0, .raw (.slice none 0 0), .int .i64 0]) zeroValue33 rfl rfl<|fun i7 => z2 (zd (v := .int _ _) rfl)<|zj sizeOf33 rfl rfl rfl rfl rfl rfl .head rfl<|zk (yo (t := 7) rfl .head)<|z6<|za<|yt (γ := Bool) [3, 4, 6, 7, 10, 11, 12, 18, 19, 20] (fun u => [(32, .bool u)]) (fun u => [(0, mnestO eP 109 b8 es)]) (fun u => u = decide (isChk z.op)) ?_ (fun _ _ h => h) ?_
   ·refine z7 rfl<|z2 (zg underlying33 rfl sizeOf31 (by decide) rfl rfl)<|z2 (zf (c := .int _ _) isAgg31 rfl)<|z2 (qi rfl rfl)<|z2 (zc (v := .bool _) rfl)<|y3 (s := 28) rfl (fun c1 => ?_) (fun c1 => ?_)
    ·refine zb rfl rfl c1<|z2 (zg underlying33 rfl sizeOf31 (by decide) rfl rfl)<|zb rfl rfl c1<|z2 (zf (c := .int _ _) isAgg31 rfl)<|zb rfl rfl c1<|z2 (Gv.leq rfl rfl)<|z2 (zu (v := .bool _) rfl c1 rfl)<|z6 ?_
     exact ⟨_, ⟨rfl, rfl, rfl, rfl, rfl, rfl, rfl, rfl, rfl, rfl, trivial⟩, ⟨rfl, trivial⟩, ⟨_, (.refl _), rfl⟩, decide_eq_decide.2 (by unfold isChk; have := of_decide_eq_true c1; omega)⟩
    ·refine z8 rfl rfl c1<|z8 rfl rfl c1<|z8 rfl rfl c1<|z2 (zt (v := .bool _) rfl c1 rfl)<|z6 ?_
     exact ⟨_, ⟨rfl, rfl, rfl, rfl, rfl, rfl, rfl, rfl, rfl, rfl, trivial⟩, ⟨rfl, trivial⟩, ⟨_, (.refl _), rfl⟩, (decide_eq_false (by unfold isChk; have := of_decide_eq_false c1; omega)).symm⟩
   ·rintro u hu
    subst hu
    refine zy rfl (fun cc => ?_) (fun cc => ?_)
    ·have hlz := hlen z.op
     refine yt (γ := Unit) [3, 4, 10, 11, 12, 18, 19, 20] (fun u => []) (fun u => [(0, mnestO eP 109 b8 (ms z.op (mg z.op es ++ [((i : Int), (j : Int))]) es))]) (fun u => True) ?_ (fun _ _ h => h) ?_
     ·refine yg (fun j => false) (by kernel_rfl) rfl (y4 (.rest _))<|ze (i := 0) rfl (by kernel_rfl) (zc (v := mref _) rfl)<|ze (i := 1) rfl (by kernel_rfl) (zg underlying33 rfl sizeOf31 (by decide) rfl rfl)<|ze (i := 2) rfl (by kernel_rfl) (zf (c := .int _ _) isAgg31 rfl)<|ze (i := 3) rfl (by kernel_rfl) (zc (v := mref _) rfl)<|ze (i := 4) rfl (by kernel_rfl) (zg underlying33 rfl sizeOf31 (by decide) rfl rfl)<|ze (i := 5) rfl (by kernel_rfl) (zf (c := .int _ _) isAgg31 rfl)<|ze (i := 7) rfl (by kernel_rfl) (zc (v := .int _ _) rfl)<|ze (i := 8) rfl (by kernel_rfl) (zc (v := .int _ _) rfl)<|ze (i := 9) rfl (by kernel_rfl) (ya (cps := [(0, [_]), (1, [_])]) (rs := [_, _]) pl109 rfl rfl rfl)<|yu (i := 6) (j := 10) rfl rfl (by kernel_rfl) ?_ ?_
      ·refine AOps.mapTake underlying178 underlying31 zeroValue102 rfl rfl .head<|fun i39 => z6<|zm (i := 10) rfl (by kernel_rfl)<|yh (rows := [[_, _]]) ps102_1 rfl rfl rfl rfl rfl<|z6<|zm (i := 11) rfl (by kernel_rfl)<|q5 (k := 2) underlying102 Tryz.type109 rfl rfl rfl rfl rfl (fun _ => .head) (by rw [eP.av_len]; rfl) (by decide) rfl (by show (_ + 1) * 16 ≤ _; omega) (by show _ + 1 ≤ _; omega)<|fun i44 => z6<|zm (i := 12) rfl (by kernel_rfl)<|AOps.mapPut (r := mg z.op es ++ [((i : Int), (j : Int))]) underlying178 underlying31 rfl rfl rfl .head .head rfl (eP.av_push (mg z.op es) ((i : Int), (j : Int))) (by rw [List.length_append]; rfl)<|z6<|y6 (by kernel_rfl) ?_
       exact ⟨(), ⟨rfl, rfl, rfl, rfl, rfl, rfl, rfl, rfl, trivial⟩, trivial, ⟨_, (.refl _), rfl⟩, trivial⟩
      ·refine yh (rows := [[_, _]]) ps102_1 rfl rfl rfl rfl rfl<|z6<|zm (i := 6) rfl (by kernel_rfl)<|AOps.mapTake underlying178 underlying31 zeroValue102 rfl rfl .head<|fun i39 => z6<|zm (i := 11) rfl (by kernel_rfl)<|q5 (k := 2) underlying102 Tryz.type109 rfl rfl rfl rfl rfl (fun _ => .head) (by rw [eP.av_len]; rfl) (by decide) rfl (by show (_ + 1) * 16 ≤ _; omega) (by show _ + 1 ≤ _; omega)<|fun i44 => z6<|zm (i := 12) rfl (by kernel_rfl)<|AOps.mapPut (r := mg z.op es ++ [((i : Int), (j : Int))]) underlying178 underlying31 rfl rfl rfl .head .head rfl (eP.av_push (mg z.op es) ((i : Int), (j : Int))) (by rw [List.length_append]; rfl)<|z6<|y6 (by kernel_rfl) ?_
       exact ⟨(), ⟨rfl, rfl, rfl, rfl, rfl, rfl, rfl, rfl, trivial⟩, trivial, ⟨_, (.refl _), rfl⟩, trivial⟩
     ·rintro _ _
      refine z7 rfl<|z2 (yl rfl rfl (by unfold I64; omega))<|z2 (zc (v := .int _ _) rfl)<|z6 ?_
      exact ⟨(j + 1, ms z.op (mg z.op es ++ [((i : Int), (j : Int))]) es), ⟨rfl, rfl, rfl, rfl, rfl, rfl, rfl, trivial⟩, ⟨rfl, trivial⟩, ⟨_, (.refl _), rfl⟩, ⟨hj2, fun q => by rw [hstep, mg_ms]; by_cases e : q = z.op; rw [if_pos e, if_pos ⟨e ▸ cc, e.symm⟩, e]; rw [if_neg e, if_neg (fun h : isChk q ∧ z.op = q => e h.2.symm), List.append_nil]⟩, by dsimp only; omega⟩
    ·refine zp<|z7 rfl<|z2 (yl rfl rfl (by unfold I64; omega))<|z2 (zc (v := .int _ _) rfl)<|z6 ?_
     exact ⟨(j + 1, es), ⟨rfl, rfl, rfl, rfl, rfl, rfl, rfl, trivial⟩, ⟨rfl, trivial⟩, ⟨_, (.refl _), rfl⟩, ⟨hj2, fun q => by rw [hstep, if_neg (fun h : isChk q ∧ z.op = q => cc (h.2 ▸ h.1)), List.append_nil]⟩, by dsimp only; omega⟩
  ·have hjn : j = b.insts.length := by simp at cj; omega
   subst hjn
   refine yf<|z7 rfl<|z2 (yl rfl rfl (by unfold I64; omega))<|z2 (zc (v := .int _ _) rfl)<|z6 ?_
   exact ⟨(i + 1, es), ⟨rfl, rfl, rfl, trivial⟩, ⟨rfl, trivial⟩, ⟨_, (.refl _), rfl⟩, ⟨hi2, fun q => by rw [hes q, List.take_length, plTo_succ q hi2, hbi]⟩, by dsimp only; omega⟩
 ·have hin : i = f.blocks.length := by simp at ci; omega
  subst hin
  refine yf<|yw (GStep.mapKnow .head)<|za<|z7 rfl<|z2 (zc (v := mref _) rfl)<|z2 (zd (v := mref _) rfl)<|z6<|zo<|zw (x := mref _) rfl ?_
  exact ⟨(b8, es), rfl, ⟨_, .refl _, rfl⟩, hes⟩
def lookR (f : PFunc) (x : AV) (O : OL) : Prop := ∃ iv : Nat, x = .tup [.po iv 0, .int .i64 0] ∧ O = [(iv, .cells 125 (viewL f (chkL f) (.raw (.slice none 0 0))))]
theorem look_bad (f : PFunc) (hf : small f) (hL : Letters E) (h : (typedB f && singB f) = false) : AFun Tryz.prog E 67 [.agg (encF f)] (.tup [.raw (.pointer none), .int .i64 3]) := by
 have hR := SingRight_spec (E := E) f hf hL
 rw [h] at hR
 refine zx func67 rfl (by decide) rfl<|za<|z7 rfl<|yk (cs := _) rfl rfl rfl<|z2 (zd (v := .raw _) rfl)<|z2 (zd (v := .int _ _) rfl)<|z6<|za<|za<|z7 rfl<|z2 (zr isAgg26 sizeOf26 rfl rfl)<|zh (hR) rfl<|z2 (zd (v := .int _ _) rfl)<|z6<|za<|z7 rfl<|z2 (zc (v := .int _ _) rfl)<|z2 (yz rfl rfl)<|z6<|q4 rfl rfl<|za<|z7 rfl<|z2 (zc (v := .int _ _) rfl)<|z2 (zd (v := .raw _) rfl)<|z2 (zd (v := .int _ _) rfl)<|z6<|zo<|qp (x := .raw _) (y := .int _ _) rfl rfl ?_
 rfl
set_option maxHeartbeats 8000000 in
theorem look_ok (f : PFunc) (hf : small f) (hL : Letters E) (h : (typedB f && singB f) = true) : ACall Tryz.prog E 67 [.agg (encF f)] [] (lookR f) := by
 have hn := hf.2.2.1
 have hvn := hf.1
 have hR := SingRight_spec (E := E) f hf hL
 rw [h] at hR
 have ht := (and3 h).1
 have hs := (and3 h).2
 have hE := typedB_ends ht
 have hS := typedB_shaped ht
 have honce : OnceP f := (onceB_iff f).1 (by unfold singB at hs; simp only [Bool.and_eq_true] at hs; exact hs.2.2.1)
 refine ACall.exact (γ := Nat) (x := fun iv => .tup [.po iv 0, .int .i64 0]) (M := fun iv => [(iv, .cells 125 (viewL f (chkL f) (.raw (.slice none 0 0))))]) (p := fun _ => True) ?_ |>.mono fun x O ⟨iv, h1, h2, _⟩ => ⟨iv, h1, h2⟩
 refine zx func67 rfl (by decide) rfl<|za<|z7 rfl<|yk (cs := _) rfl rfl rfl<|z2 (zd (v := .raw _) rfl)<|z2 (zd (v := .int _ _) rfl)<|z6<|za<|za<|z7 rfl<|z2 (zr isAgg26 sizeOf26 rfl rfl)<|zh (hR) rfl<|z2 (zd (v := .int _ _) rfl)<|z6<|za<|z7 rfl<|z2 (zc (v := .int _ _) rfl)<|z2 (yz rfl rfl)<|z6<|q0 rfl rfl<|zp<|za<|z7 rfl<|z2 (zr isAgg26 sizeOf26 rfl rfl)<|zh (New_spec f hf hL ht) rfl<|z2 (zc (v := .tup _) rfl)<|z2 (yp (v := .pf _) rfl rfl)<|z2 (yp (v := .int _ _) rfl rfl)<|z2 (zd (v := .pf _) rfl)<|z2 (zd (v := .int _ _) rfl)<|z6<|za<|za<|z7 rfl<|z2 (zc (v := .int _ _) rfl)<|z2 (yz rfl rfl)<|z6<|q0 rfl rfl<|zp<|za<|yt (γ := Nat × Nat) [1, 5] (fun z => [(7, .po z.1 0)]) (fun z => [(z.1, .cells 125 (encF f ++ [.fro 2 ((makersT f).map eP.row), .own z.2 f.vars.length, .raw (.slice none 0 0)])), (z.2, .grow 1 4 (cB (List.replicate f.vars.length false)))]) (fun z => True) ?_ (fun _ _ h => h) ?_
 ·refine yg (fun j => false) (by kernel_rfl) rfl (y4 (.rest _))<|ze (i := 0) rfl (by kernel_rfl) (zr isAgg26 sizeOf26 rfl rfl)<|ze (i := 1) rfl (by kernel_rfl) (zr isAgg26 sizeOf26 rfl rfl)<|ze (i := 3) rfl (by kernel_rfl) (zg underlying26 rfl sizeOf22 (by decide) rfl rfl)<|ze (i := 4) rfl (by kernel_rfl) (zf (c := .fro _ _) isAgg22 rfl)<|ze (i := 5) rfl (by kernel_rfl) (yb underlying22 rfl)<|yu (i := 2) (j := 6) rfl rfl (by kernel_rfl) ?_ ?_
  ·refine zh (Makers_spec f hf hL ht) rfl<|z6<|zm (i := 6) rfl (by kernel_rfl)<|AOps.makeB (m := f.vars.length) underlying111 Tryz.type4 rfl rfl rfl rfl rfl (by simp) (by simp) (by show (1 : Int) * _ ≤ _; omega) (by omega)<|fun i35 => z6<|ze (i := 7) rfl (by kernel_rfl) (ya (cps := [(0, [_, _, _]), (1, [_]), (2, [_])]) (rs := [_, _, _, _, _, .raw (.slice none 0 0)]) pl125 rfl rfl rfl)<|zm (i := 8) rfl (by kernel_rfl)<|yy (cs := _) rfl rfl rfl rfl<|fun i37 => z6<|ze (i := 9) rfl (by kernel_rfl) (zd (v := .po _ _) rfl)<|y6 (by kernel_rfl) ?_
   exact ⟨(i37, i35), ⟨rfl, rfl, trivial⟩, ⟨rfl, trivial⟩, ⟨_, (.refl _), rfl⟩, trivial⟩
  ·refine AOps.makeB (m := f.vars.length) underlying111 Tryz.type4 rfl rfl rfl rfl rfl (by simp) (by simp) (by show (1 : Int) * _ ≤ _; omega) (by omega)<|fun i35 => z6<|zm (i := 2) rfl (by kernel_rfl)<|zh (Makers_spec f hf hL ht) rfl<|z6<|ze (i := 7) rfl (by kernel_rfl) (ya (cps := [(0, [_, _, _]), (1, [_]), (2, [_])]) (rs := [_, _, _, _, _, .raw (.slice none 0 0)]) pl125 rfl rfl rfl)<|zm (i := 8) rfl (by kernel_rfl)<|yy (cs := _) rfl rfl rfl rfl<|fun i37 => z6<|ze (i := 9) rfl (by kernel_rfl) (zd (v := .po _ _) rfl)<|y6 (by kernel_rfl) ?_
   exact ⟨(i37, i35), ⟨rfl, rfl, trivial⟩, ⟨rfl, trivial⟩, ⟨_, (.refl _), rfl⟩, trivial⟩
 ·rintro ⟨iv, ck⟩ _
  refine za<|z7 rfl<|z2 (zr isAgg26 sizeOf26 rfl rfl)<|yc rfl (y4 (.r (.r (.rest _)))) (checks_spec f hf) ?_
  rintro r39 O39 ⟨⟨mb, es⟩, rfl, rfl, hes⟩
  refine z2 (zd (v := mref _) rfl)<|z6<|za<|za<|z7 rfl<|z2 (zg underlying26 rfl sizeOf24 (by decide) rfl rfl)<|z2 (zf (c := .fro _ _) isAgg24 rfl)<|z2 (yb underlying24 rfl)<|z2 (zc (v := .int _ _) rfl)<|z6<|yw (zi (zn (.tail (.tail .head))))<|yw (zi (zn (.tail (.tail .head))))<|zq<|yj (γ := Nat × List Bool) [1, 5, 7, 8, 41, 42] (fun g => [(43, .int .i64 g.1)]) (fun g => [(iv, .cells 125 (encF f ++ [.fro 2 ((makersT f).map eP.row), .own ck f.vars.length, .raw (.slice none 0 0)])), (ck, .grow 1 4 (cB g.2)), (0, mfroO eP mb es)]) (fun g => g.1 ≤ f.blocks.length ∧ g.2.length = f.vars.length ∧ ∀ v : Nat, v < f.vars.length → (gb g.2 v = true ↔ Done f g.1 0 v)) (fun g => f.blocks.length - g.1) (0, List.replicate f.vars.length false) ⟨rfl, trivial⟩ ⟨_, (.refl _), rfl⟩ (⟨Nat.zero_le _, by simp, fun v hv => by rw [gb_nat, List.getElem?_replicate, if_pos hv]; simpa using Done.zero f v⟩) ?_
  rintro ⟨i, L⟩ ⟨hi, hLl, hLd⟩
  try dsimp only at *
  refine za<|z7 rfl<|z2 (yn rfl rfl)<|z6<|za<|zy rfl (fun ci => ?_) (fun ci => ?_)
  ·have hi2 : i < f.blocks.length := by simp at ci; omega
   obtain ⟨b, hbi⟩ : ∃ b, f.blocks[i] = b := ⟨_, rfl⟩
   have hget : f.blocks[i]? = some b := by rw [List.getElem?_eq_getElem hi2, hbi]
   have hmem : b ∈ f.blocks := hbi ▸ List.getElem_mem hi2
   obtain ⟨hb0, hb1, hb2, hb3, hb4⟩ := hf.2.2.2.2 b hmem
   obtain ⟨hPh, hIn, hTm⟩ := hS.2.2.2.2.2 b hmem
   refine zp<|za<|zq<|za<|z7 rfl<|z2 (zc (v := .int _ _) rfl)<|z2 (yd (j := i) underlying24 sizeOf66 rfl rfl rfl hget)<|z2 (zr isAgg66 sizeOf66 rfl rfl)<|zz (cs := [.str ⟨#[]⟩, .raw (.slice none 0 0), .raw (.slice none 0 0), .int .i64 0, .int .i64 0, .int .i64 0, .int .i64 0]) zeroValue66 rfl rfl<|fun i10 => z2 (zd (v := .int _ _) rfl)<|zj sizeOf66 rfl rfl rfl rfl rfl rfl .head rfl<|zk (yo (t := 10) rfl .head)<|z6<|za<|z7 rfl<|z2 (zg underlying66 rfl sizeOf60 (by decide) rfl rfl)<|z2 (zf (c := .fro _ _) isAgg60 rfl)<|z2 (yb underlying60 rfl)<|z2 (zc (v := .int _ _) rfl)<|z6<|zq<|yj (γ := Nat × List Bool) [1, 5, 7, 8, 9, 41, 42, 43, 49, 50] (fun g => [(51, .int .i64 g.1)]) (fun g => [(iv, .cells 125 (encF f ++ [.fro 2 ((makersT f).map eP.row), .own ck f.vars.length, .raw (.slice none 0 0)])), (ck, .grow 1 4 (cB g.2)), (0, mfroO eP mb es)]) (fun g => g.1 ≤ b.insts.length ∧ g.2.length = f.vars.length ∧ ∀ v : Nat, v < f.vars.length → (gb g.2 v = true ↔ Done f i g.1 v)) (fun g => b.insts.length - g.1) (0, L) ⟨rfl, trivial⟩ ⟨_, (.refl _), rfl⟩ (⟨Nat.zero_le _, hLl, hLd⟩) ?_
   rintro ⟨j, L⟩ ⟨hj, hLl, hLd⟩
   try dsimp only at *
   refine za<|z7 rfl<|z2 (yn rfl rfl)<|z6<|za<|zy rfl (fun cj => ?_) (fun cj => ?_)
   ·have hj2 : j < b.insts.length := by simp at cj; omega
    obtain ⟨z, hz⟩ : ∃ z, b.insts[j] = z := ⟨_, rfl⟩
    have hzg : b.insts[j]? = some z := by rw [List.getElem?_eq_getElem hj2, hz]
    have hzm : z ∈ b.insts := hz ▸ List.getElem_mem hj2
    have hI := instP_F (hIn z hzm)
    have hzl := hb4 z hzm
    have hstep := fun v : Int => Done.step (f := f) hget hzg v
    have hmq := hes (matchQ z.op)
    obtain ⟨ps, hps⟩ : ∃ ps, mg (matchQ z.op) es = ps := ⟨_, rfl⟩
    have hpl : ps.length ≤ 2000000 := by
     have := plTo_len (f := f) (q := matchQ z.op) (fun b hb => (hf.2.2.2.2 b hb).2.2.1) f.blocks.length (Nat.le_refl _)
     rw [← hps, hmq]; omega
    have hcx : chkX f z i j = true ↔ ∃ m ∈ ps, hitB f z i j m = true := by rw [chkX_iff, ← hps, hmq]
    have hpm : ∀ m ∈ ps, ∃ (i' k' : Nat) (b' : PBlock) (c : PInst), f.blocks[i']? = some b' ∧ b'.insts[k']? = some c ∧ m = ((i' : Int), (k' : Int)) ∧ 0 ≤ z.dst ∧ z.dst.toNat < f.vars.length := fun m hm => by
     rw [← hps, hmq] at hm
     obtain ⟨hq, i', k', b', c, g1, g2, g3, g4⟩ := mem_plTo.1 hm
     have hso : z.op = 2 ∨ z.op = 3 ∨ z.op = 4 := Classical.byContradiction fun hno => by
      unfold matchQ at hq; rw [if_neg hno] at hq; unfold isChk at hq; omega
     rcases hI.dst with ⟨d1, _⟩ | ⟨_, _, d3⟩
     ·rw [makesB_sum hso] at d1; cases d1
     ·have := hasV_rng d3
      exact ⟨i', k', b', c, g1, g2, g4, this.1, by omega⟩
    refine zp<|za<|zq<|za<|z7 rfl<|z2 (zc (v := .int _ _) rfl)<|z2 (yd (j := j) underlying60 sizeOf33 rfl rfl rfl hzg)<|z2 (zr isAgg33 sizeOf33 rfl rfl)<|zz (cs := [.int .i64 0, .int .i64 0, .raw (.slice none 0 0), .int .i64 0]) zeroValue33 rfl rfl<|fun i12 => z2 (zd (v := .int _ _) rfl)<|zj sizeOf33 rfl rfl rfl rfl rfl rfl .head rfl<|zk (yo (t := 12) rfl .head)<|z6<|za<|z7 rfl<|z2 (zc (v := mref _) rfl)<|z2 (zg underlying33 rfl sizeOf31 (by decide) rfl rfl)<|z2 (zf (c := .int _ _) isAgg31 rfl)<|zh (matching_spec z.op) rfl<|z2 (Gv.lookupF underlying178 underlying31 zeroValue102 rfl rfl ⟨_, (.tail (.tail .head))⟩)<|z2 (yb underlying102 rfl)<|z2 (zc (v := .int _ _) rfl)<|z6 ?_
    rw [hps]
    refine zq<|yj (γ := Nat × List Bool) [1, 5, 7, 8, 9, 11, 12, 41, 42, 43, 49, 50, 51, 60, 61] (fun g => [(62, .int .i64 g.1)]) (fun g => [(iv, .cells 125 (encF f ++ [.fro 2 ((makersT f).map eP.row), .own ck f.vars.length, .raw (.slice none 0 0)])), (ck, .grow 1 4 (cB g.2)), (0, mfroO eP mb es)]) (fun g => g.1 ≤ ps.length ∧ g.2.length = f.vars.length ∧ ∀ v : Nat, v < f.vars.length → (gb g.2 v = true ↔ Done f i j v ∨ ((v : Int) = z.dst ∧ ∃ m ∈ ps.take g.1, hitB f z i j m = true))) (fun g => ps.length - g.1) (0, L) ⟨rfl, trivial⟩ ⟨_, (.refl _), rfl⟩ (⟨Nat.zero_le _, hLl, fun v hv => by rw [hLd v hv]; simp⟩) ?_
    rintro ⟨q, L⟩ ⟨hq, hLl, hLd⟩
    try dsimp only at *
    refine za<|z7 rfl<|z2 (yn rfl rfl)<|z6<|za<|zy rfl (fun cq => ?_) (fun cq => ?_)
    ·have hq2 : q < ps.length := by simp at cq; omega
     obtain ⟨m, hm⟩ : ∃ m, ps[q] = m := ⟨_, rfl⟩
     obtain ⟨i', k', b', c, g1, g2, rfl, hz0, hz1⟩ := hpm m (hm ▸ List.getElem_mem hq2)
     have hcl := (hf.2.2.2.2 b' (List.mem_of_getElem? g1)).2.2.2.2 c (List.mem_of_getElem? g2)
     have htk : ∀ P : Plc → Prop, (∃ m ∈ ps.take (q + 1), P m) ↔ (∃ m ∈ ps.take q, P m) ∨ P ((i' : Int), (k' : Int)) := fun P => by
      rw [List.take_succ_eq_append_getElem hq2, hm]
      simp only [List.mem_append, List.mem_singleton]
      constructor
      ·rintro ⟨m, h | rfl, hp⟩
       ·exact .inl ⟨m, h, hp⟩
       ·exact .inr hp
      ·rintro (⟨m, h, hp⟩ | hp)
       ·exact ⟨m, .inl h, hp⟩
       ·exact ⟨_, .inr rfl, hp⟩
     have hhit : hitB f z i j ((i' : Int), (k' : Int)) = (decide (c.args = z.args) && aheadB f ((i' : Int), (k' : Int)) i j) := by unfold hitB; rw [instAt_nat g1 g2]; rfl
     refine zp<|za<|zq<|za<|z7 rfl<|z2 (yd (j := q) underlying102 sizeOf109 rfl rfl rfl (by rw [List.getElem?_eq_getElem hq2, hm])) ?_
     refine z2 (zr isAgg109 sizeOf109 rfl rfl)<|zz (cs := [.int .i64 0, .int .i64 0]) zeroValue109 rfl rfl<|fun i14 => zj sizeOf109 rfl rfl rfl rfl rfl rfl .head rfl<|zk (yo (t := 14) rfl .head)<|z6<|za<|yg (fun j => false) (by kernel_rfl) rfl (y4 (.rest _))<|ze (i := 0) rfl (by kernel_rfl) (zg underlying26 rfl sizeOf24 (by decide) rfl rfl)<|ze (i := 1) rfl (by kernel_rfl) (zf (c := .fro _ _) isAgg24 rfl)<|ze (i := 2) rfl (by kernel_rfl) (zg underlying109 rfl sizeOf3 (by decide) rfl rfl)<|ze (i := 3) rfl (by kernel_rfl) (zf (c := .int _ _) isAgg3 rfl)<|ze (i := 4) rfl (by kernel_rfl) (yd (j := i') underlying24 sizeOf66 rfl rfl rfl g1)<|ze (i := 5) rfl (by kernel_rfl) (zg underlying66 rfl sizeOf60 (by decide) rfl rfl)<|ze (i := 6) rfl (by kernel_rfl) (zf (c := .fro _ _) isAgg60 rfl)<|ze (i := 7) rfl (by kernel_rfl) (zg underlying109 rfl sizeOf3 (by decide) rfl rfl)<|ze (i := 8) rfl (by kernel_rfl) (zf (c := .int _ _) isAgg3 rfl)<|ze (i := 9) rfl (by kernel_rfl) (yd (j := k') underlying60 sizeOf33 rfl rfl rfl g2)<|ze (i := 10) rfl (by kernel_rfl) (zr isAgg33 sizeOf33 rfl rfl)<|zm (i := 11) rfl (by kernel_rfl)<|zz (cs := [.int .i64 0, .int .i64 0, .raw (.slice none 0 0), .int .i64 0]) zeroValue33 rfl rfl<|fun i15 => z6<|zm (i := 12) rfl (by kernel_rfl)<|zj sizeOf33 rfl rfl rfl rfl rfl rfl .head rfl<|z6<|y6 (by kernel_rfl)<|yw (yo (t := 15) rfl .head)<|za<|yt (γ := Bool) [1, 5, 7, 8, 9, 11, 12, 41, 42, 43, 49, 50, 51, 60, 61, 62] (fun u => [(88, .bool u)]) (fun u => [(iv, .cells 125 (encF f ++ [.fro 2 ((makersT f).map eP.row), .own ck f.vars.length, .raw (.slice none 0 0)])), (ck, .grow 1 4 (cB L)), (0, mfroO eP mb es)]) (fun u => u = hitB f z i j ((i' : Int), (k' : Int))) ?_ (fun _ _ h => h) ?_
     ·refine z7 rfl<|z2 (zg underlying33 rfl sizeOf23 (by decide) rfl rfl)<|z2 (zf (c := .fro _ _) isAgg23 rfl)<|z2 (zg underlying33 rfl sizeOf23 (by decide) rfl rfl)<|z2 (zf (c := .fro _ _) isAgg23 rfl)<|zh (equalI_spec c.args z.args (by unfold okL; omega)) rfl<|z2 (zc (v := .bool _) rfl)<|y3 (s := 82) rfl (fun c1 => ?_) (fun c1 => ?_)
      ·refine zb rfl rfl c1<|z2 (zc (v := .pf _) rfl)<|zb rfl rfl c1<|z2 (zr isAgg109 sizeOf109 rfl rfl)<|zb rfl rfl c1<|z2 (zc (v := .int _ _) rfl)<|zb rfl rfl c1<|z2 (zc (v := .int _ _) rfl)<|zb rfl rfl c1<|zh (ahead_spec f hE hn ((i' : Int), (k' : Int)) i j (froN eI (kidsR f)) .any) rfl<|z2 (zu (v := .bool _) rfl c1 rfl)<|z6 ?_
       exact ⟨_, ⟨rfl, rfl, rfl, rfl, rfl, rfl, rfl, rfl, rfl, rfl, rfl, rfl, rfl, rfl, rfl, rfl, trivial⟩, ⟨rfl, trivial⟩, ⟨_, (.refl _), rfl⟩, by rw [hhit, show decide (c.args = z.args) = true from c1]; rfl⟩
      ·refine z8 rfl rfl c1<|z8 rfl rfl c1<|z8 rfl rfl c1<|z8 rfl rfl c1<|z8 rfl rfl c1<|z2 (zt (v := .bool _) rfl c1 rfl)<|z6 ?_
       exact ⟨_, ⟨rfl, rfl, rfl, rfl, rfl, rfl, rfl, rfl, rfl, rfl, rfl, rfl, rfl, rfl, rfl, rfl, trivial⟩, ⟨rfl, trivial⟩, ⟨_, (.refl _), rfl⟩, by rw [hhit, show decide (c.args = z.args) = false from c1]; rfl⟩
     ·rintro u hu
      subst hu
      refine y9 rfl (fun ch => ?_) (fun ch => ?_)
      ·refine yg (fun j => Nat.beq j 7) (by kernel_rfl) rfl (y4 (.r (.r (.rest _))))<|ze (i := 0) rfl (by kernel_rfl) (zc (v := .po _ _) rfl)<|ze (i := 1) rfl (by kernel_rfl) (yv rfl)<|ze (i := 2) rfl (by kernel_rfl) (y5 underlying125 rfl sizeOf111 (by decide) rfl rfl)<|ze (i := 3) rfl (by kernel_rfl) (y8 (c := .own _ _) isAgg111 rfl ⟨_, .head⟩ rfl)<|ze (i := 4) rfl (by kernel_rfl) (zg underlying33 rfl sizeOf3 (by decide) rfl rfl)<|ze (i := 5) rfl (by kernel_rfl) (zf (c := .int _ _) isAgg3 rfl)<|ze (i := 6) rfl (by kernel_rfl) (qa (j := z.dst.toNat) underlying111 sizeOf4 rfl rfl (by omega) ⟨_, (.tail .head)⟩ (by rw [cB_len]; exact hLl) hz1)<|q6<|qd (i := 7) rfl (by kernel_rfl) (by kernel_rfl)<|AOps.storeB (j := z.dst.toNat) sizeOf4 rfl rfl (.tail .head) (by omega)<|z6<|q8 (by kernel_rfl)<|z7 rfl<|z2 (yl rfl rfl (by unfold I64; omega))<|z2 (zc (v := .int _ _) rfl)<|z6 ?_
       exact ⟨(q + 1, L.set z.dst.toNat true), ⟨rfl, rfl, rfl, rfl, rfl, rfl, rfl, rfl, rfl, rfl, rfl, rfl, rfl, rfl, rfl, trivial⟩, ⟨rfl, trivial⟩, ⟨_, (.refl _), rfl⟩, ⟨hq2, by rw [List.length_set]; exact hLl, fun v hv => by rw [gb_set2 (by omega), hLd v hv, htk, ch]; constructor; (rintro (h | h | h); exact .inr ⟨by omega, .inr rfl⟩; exact .inl h; exact .inr ⟨h.1, .inl h.2⟩); (rintro (h | ⟨h1, h2⟩); exact .inr (.inl h); exact .inl (by omega))⟩, by dsimp only; omega⟩
      ·refine zp<|z7 rfl<|z2 (yl rfl rfl (by unfold I64; omega))<|z2 (zc (v := .int _ _) rfl)<|z6 ?_
       exact ⟨(q + 1, L), ⟨rfl, rfl, rfl, rfl, rfl, rfl, rfl, rfl, rfl, rfl, rfl, rfl, rfl, rfl, rfl, trivial⟩, ⟨rfl, trivial⟩, ⟨_, (.refl _), rfl⟩, ⟨hq2, hLl, fun v hv => by rw [hLd v hv, htk]; simp [show hitB f z i j ((i' : Int), (k' : Int)) = false from ch]⟩, by dsimp only; omega⟩
    ·have hqn : q = ps.length := by simp at cq; omega
     subst hqn
     refine yf<|z7 rfl<|z2 (yl rfl rfl (by unfold I64; omega))<|z2 (zc (v := .int _ _) rfl)<|z6 ?_
     exact ⟨(j + 1, L), ⟨rfl, rfl, rfl, rfl, rfl, rfl, rfl, rfl, rfl, rfl, trivial⟩, ⟨rfl, trivial⟩, ⟨_, (.refl _), rfl⟩, ⟨hj2, hLl, fun v hv => by rw [hLd v hv, List.take_length, hstep, hcx]⟩, by dsimp only; omega⟩
   ·have hjn : j = b.insts.length := by simp at cj; omega
    subst hjn
    refine yf<|z7 rfl<|z2 (yl rfl rfl (by unfold I64; omega))<|z2 (zc (v := .int _ _) rfl)<|z6 ?_
    exact ⟨(i + 1, L), ⟨rfl, rfl, rfl, rfl, rfl, rfl, trivial⟩, ⟨rfl, trivial⟩, ⟨_, (.refl _), rfl⟩, ⟨hi2, hLl, fun v hv => by rw [hLd v hv, Done.next hget]⟩, by dsimp only; omega⟩
  ·have hin : i = f.blocks.length := by simp at ci; omega
   subst hin
   have hLe := chkL_eq honce hLl hLd
   subst hLe
   refine yf<|yw (GStep.knowBC (off := 4) (.tail .head) .head rfl (chkL_len f))<|za<|z7 rfl<|z2 (zc (v := .po _ _) rfl)<|z2 (zd (v := .po _ _) rfl)<|z2 (zd (v := .int _ _) rfl)<|z6<|zo<|qp (x := .po _ _) (y := .int _ _) rfl rfl ?_
   exact ⟨iv, rfl, ⟨_, .keep (.drop (.refl _)), rfl⟩, trivial⟩
end Go.Proofs.YtjnpcfpecilejaaGreatDoor
namespace Go.Proofs.YtjnpcfpecilejaaGreatDoor
open Go.Proofs.Tryz
open Go.Proofs Go.Lib Go.Shelf Go.RowKit
variable {E : World}
set_option maxRecDepth 20000
theorem takes_10 : takesL 10 = [1] := by decide
theorem takes_11 : takesL 11 = [1, 1] := by decide
theorem typed_bool {f : PFunc} (h : typedB f = true) : ∀ b ∈ f.blocks, ∀ x ∈ b.insts, x.op = 10 ∨ x.op = 11 → ∀ v ∈ x.args, tyV f v = 1 := by
 intro b hb x hx hop v hv
 unfold typedB at h
 rw [Bool.and_eq_true] at h
 have h1 := List.all_eq_true.1 h.2 b hb
 unfold blkT at h1
 simp only [Bool.and_eq_true] at h1
 have h2 := List.all_eq_true.1 h1.1.2 x hx
 unfold instT at h2
 rw [if_neg (by omega)] at h2
 rw [Bool.and_eq_true, decide_eq_true_eq] at h2
 have h3 : kindV f v ∈ takesL x.op := by rw [← h2.1]; exact List.mem_map_of_mem hv
 show kindV f v = 1
 rcases hop with e | e <;> rw [e] at h3
 ·rw [takes_10] at h3; simpa using h3
 ·rw [takes_11] at h3; simpa using h3
theorem sing_once {f : PFunc} (h : singB f = true) : OnceP f := (onceB_iff f).1 (by unfold singB at h; simp only [Bool.and_eq_true] at h; exact h.2.2.1)
theorem ruleF_of {f : PFunc} (hf : small f) (h : (typedB f && singB f) = true) : RuleF f := ⟨hf, typedB_shaped (and3 h).1, sing_once (and3 h).2, typed_bool (and3 h).1⟩
theorem rule_chk {f : PFunc} (hS : ShapedP f) {l : List Rng} {v : Nat} (hv : v < f.vars.length) (hm : 0 ≤ (makerT f v).1) (ho : OnceP f) : ruleR f (gb (chkL f)) l v = ruleR f (chkV f) l v := by
 obtain ⟨i, b, h1, ⟨p, h2, h3, h4⟩ | ⟨k, x, h2, h3, h4⟩⟩ := maker_cases hm
 ·rw [rule_phi (ho v hv).1 h1 h2 h3 h4, rule_phi (ho v hv).1 h1 h2 h3 h4]
 ·rw [rule_inst h1 h2 h4, rule_inst h1 h2 h4]
  unfold instR
  rw [h3, chkL_gb (by omega) (by omega)]
theorem notdecT {p : Prop} [Decidable p] (h : (!decide p) = true) : ¬ p := fun hp => by rw [decide_eq_true hp] at h; cases h
theorem notdecF {p : Prop} [Decidable p] (h : (!decide p) = false) : p := Classical.byContradiction fun hp => by rw [decide_eq_false hp] at h; cases h
def firstP (f : PFunc) (v : Int) : Rng := if typedB f = true ∧ 0 ≤ v ∧ v < f.vars.length then firstR f v else noR
theorem vFirst_spec (f : PFunc) (hf : small f) (hL : Letters E) (v : Int) : AFun Tryz.prog E 36 [.agg (encF f), .int .i64 v] (.agg (encZ (firstP f v))) := by
 have hvn := hf.1
 have hp := hf.2.1
 have hT := Typed_spec (E := E) f hf hL
 refine zx func36 rfl (by decide) rfl<|za<|z7 rfl<|yk (cs := _) rfl rfl rfl<|zz (cs := [.int .i64 0, .int .i64 0]) zeroValue74 rfl rfl<|fun i4 => z6<|za<|zq<|za<|yt (γ := Bool) [1, 2, 4] (fun u => [(5, .bool u)]) (fun u => [(i4, .cells 74 [.int .i64 0, .int .i64 0])]) (fun u => u = !decide (typedB f = true ∧ 0 ≤ v ∧ v < f.vars.length)) ?_ (fun _ _ h => h) ?_
 ·refine z7 rfl<|z2 (zr isAgg26 sizeOf26 rfl rfl)<|zh (hT) rfl<|z2 (yz rfl rfl)<|z2 (zc (v := .bool _) rfl)<|y3 (s := 9) rfl (fun c1 => ?_) (fun c1 => ?_)
  ·refine z8 rfl rfl c1<|z8 rfl rfl c1<|z2 (zu (v := .bool _) rfl c1 rfl)<|z2 (zc (v := .bool _) rfl)<|z8 rfl rfl rfl<|z8 rfl rfl rfl<|z8 rfl rfl rfl<|z8 rfl rfl rfl<|z8 rfl rfl rfl<|z2 (zu (v := .bool _) rfl rfl rfl)<|z2 (zd (v := .bool _) rfl)<|z6 ?_
   exact ⟨_, ⟨rfl, rfl, rfl, trivial⟩, ⟨rfl, trivial⟩, ⟨_, (.refl _), rfl⟩, by have h : typedB f = false := (by cases ht : typedB f; rfl; rw [ht] at c1; simp at c1); simp [h]⟩
  ·have h1 : typedB f = true := by cases ht : typedB f; rw [ht] at c1; simp at c1; rfl
   refine zb rfl rfl c1<|z2 (zc (v := .int _ _) rfl)<|zb rfl rfl c1<|z2 (yn rfl rfl)<|z2 (zt (v := .bool _) rfl c1 rfl)<|z2 (zc (v := .bool _) rfl)<|y3 (s := 13) rfl (fun c2 => ?_) (fun c2 => ?_)
   ·refine z8 rfl rfl c2<|z8 rfl rfl c2<|z8 rfl rfl c2<|z8 rfl rfl c2<|z8 rfl rfl c2<|z2 (zu (v := .bool _) rfl c2 rfl)<|z2 (zd (v := .bool _) rfl)<|z6 ?_
    exact ⟨_, ⟨rfl, rfl, rfl, trivial⟩, ⟨rfl, trivial⟩, ⟨_, (.refl _), rfl⟩, by have h : v < 0 := (by simpa using c2); simp; omega⟩
   ·refine zb rfl rfl c2<|z2 (zc (v := .int _ _) rfl)<|zb rfl rfl c2<|z2 (zg underlying26 rfl sizeOf22 (by decide) rfl rfl)<|zb rfl rfl c2<|z2 (zf (c := .fro _ _) isAgg22 rfl)<|zb rfl rfl c2<|z2 (yb underlying22 rfl)<|zb rfl rfl c2<|z2 (qi rfl rfl)<|z2 (zt (v := .bool _) rfl c2 rfl)<|z2 (zd (v := .bool _) rfl)<|z6 ?_
    exact ⟨_, ⟨rfl, rfl, rfl, trivial⟩, ⟨rfl, trivial⟩, ⟨_, (.refl _), rfl⟩, by have h : ¬ v < 0 := (by simpa using c2); rw [Bool.eq_iff_iff]; simp [h1]; omega⟩
 ·rintro u hu
  subst hu
  refine y9 rfl (fun c => ?_) (fun c => ?_)
  ·refine za<|z7 rfl<|zh (iNone) rfl<|zj sizeOf74 rfl rfl rfl rfl rfl rfl .head rfl<|z6<|zo<|yq rfl ⟨_, .head⟩ isAgg74 sizeOf74 rfl ?_
   rw [firstP, if_neg (notdecT c)]; try rfl
  ·have hc : typedB f = true ∧ 0 ≤ v ∧ v < f.vars.length := notdecF c
   rw [firstP, if_pos hc, firstR]
   have hvl : v.toNat < f.vars.length := by omega
   have hty : tyV f v = f.vars[v.toNat].ty := by unfold tyV; rw [List.getElem?_eq_getElem hvl]; rfl
   refine za<|z7 rfl<|z2 (zc (v := .int _ _) rfl)<|z2 (zg underlying26 rfl sizeOf23 (by decide) rfl rfl)<|z2 (zf (c := .fro _ _) isAgg23 rfl)<|z2 (yb underlying23 rfl)<|z2 (yn rfl rfl)<|z2 (zd (v := .bool _) rfl)<|z6<|zy rfl (fun c2 => ?_) (fun c2 => ?_)
   ·refine za<|z7 rfl<|z2 (zg underlying26 rfl sizeOf22 (by decide) rfl rfl)<|z2 (zf (c := .fro _ _) isAgg22 rfl)<|z2 (zc (v := .int _ _) rfl)<|z2 (yd (j := v.toNat) underlying22 sizeOf56 rfl rfl (by omega) (List.getElem?_eq_getElem hvl)) ?_
    refine z2 (zg underlying56 rfl sizeOf54 (by decide) rfl rfl)<|z2 (zf (c := .int _ _) isAgg54 rfl)<|zh (iType _) rfl<|zj sizeOf74 rfl rfl rfl rfl rfl rfl .head rfl<|z6<|zo<|yq rfl ⟨_, .head⟩ isAgg74 sizeOf74 rfl ?_
    rw [if_pos c2, hty]; try rfl
   ·refine zp<|za<|z7 rfl<|zh (iOf _) rfl<|zj sizeOf74 rfl rfl rfl rfl rfl rfl .head rfl<|z6<|zo<|yq rfl ⟨_, .head⟩ isAgg74 sizeOf74 rfl ?_
    rw [if_neg c2]; try rfl
def ruleB (f : PFunc) (l : List Rng) (v : Int) : Bool := (typedB f && singB f) && decide (l.length = f.vars.length ∧ 0 ≤ v ∧ v < f.vars.length ∧ 0 ≤ (makerT f v).1)
def ruleP (f : PFunc) (l : List Rng) (v : Int) : Rng := if ruleB f l v = true then ruleR f (chkV f) l v else noR
theorem lv_ok {l : List Rng} (h : ∀ r ∈ l, ok64 r) (u : Int) : ok64 (lv l u) := by
 unfold lv
 cases hu : l[u.toNat]? with
 | none => exact noR_ok
 | some r => exact h r (List.mem_of_getElem? hu)
set_option maxHeartbeats 4000000 in
theorem vRule_ok (f : PFunc) (hf : small f) (hL : Letters E) (l : List Rng) (ho : ∀ r ∈ l, ok64 r) (hl : l.length ≤ 9223372036854775807) (v : Int) (hs : (typedB f && singB f) = true) : AFun Tryz.prog E 40 [.agg (encF f), .fro 2 (l.map encZ), .int .i64 v] (.tup [.agg (encZ (ruleP f l v)), .bool (ruleB f l v)]) := by
 have hvn := hf.1
 have hF := ruleF_of hf hs
 have hS := hF.shaped
 have hlk := look_ok (E := E) f hf hL hs
 refine zx func40 rfl (by decide) rfl<|za<|z7 rfl<|yk (cs := _) rfl rfl rfl<|zz (cs := [.int .i64 0, .int .i64 0]) zeroValue74 rfl rfl<|fun i6 => z2 (zd (v := .bool _) rfl)<|z6<|za<|z7 rfl<|z2 (zr isAgg26 sizeOf26 rfl rfl)<|yc rfl (y4 (.r (.rest _))) (hlk) ?_
 rintro r12 O12 ⟨iv, rfl, rfl⟩
 refine z2 (zc (v := .tup _) rfl)<|z2 (yp (v := .po _ _) rfl rfl)<|z2 (yp (v := .int _ _) rfl rfl)<|z2 (zd (v := .po _ _) rfl)<|z2 (zd (v := .int _ _) rfl)<|z6<|za<|za<|yt (γ := Bool) [1, 2, 6, 8] (fun u => [(46, .bool u)]) (fun u => [(iv, .cells 125 (viewL f (chkL f) (.raw (.slice none 0 0)))), (i6, .cells 74 [.int .i64 0, .int .i64 0])]) (fun u => u = !decide (l.length = f.vars.length ∧ 0 ≤ v ∧ v < f.vars.length ∧ 0 ≤ (makerT f v).1)) ?_ (fun _ _ h => h) ?_
 ·refine z7 rfl<|z2 (zc (v := .int _ _) rfl)<|z2 (yz rfl rfl)<|z2 (zc (v := .bool _) rfl)<|y3 (s := 17) rfl (fun c1 => ?_) (fun c1 => ?_)
  ·exfalso; simp at c1
  ·refine zb rfl rfl c1<|z2 (zc (v := .fro _ _) rfl)<|zb rfl rfl c1<|z2 (yb underlying41 rfl)<|zb rfl rfl c1<|z2 (zg underlying26 rfl sizeOf22 (by decide) rfl rfl)<|zb rfl rfl c1<|z2 (zf (c := .fro _ _) isAgg22 rfl)<|zb rfl rfl c1<|z2 (yb underlying22 rfl)<|zb rfl rfl c1<|z2 (yz rfl rfl)<|z2 (zt (v := .bool _) rfl c1 rfl)<|z2 (zc (v := .bool _) rfl)<|y3 (s := 25) rfl (fun c2 => ?_) (fun c2 => ?_)
   ·refine z8 rfl rfl c2<|z8 rfl rfl c2<|z2 (zu (v := .bool _) rfl c2 rfl)<|z2 (zc (v := .bool _) rfl)<|z8 rfl rfl rfl<|z8 rfl rfl rfl<|z8 rfl rfl rfl<|z8 rfl rfl rfl<|z8 rfl rfl rfl<|z2 (zu (v := .bool _) rfl rfl rfl)<|z2 (zc (v := .bool _) rfl)<|z8 rfl rfl rfl<|z8 rfl rfl rfl<|z8 rfl rfl rfl<|z8 rfl rfl rfl<|z8 rfl rfl rfl<|z8 rfl rfl rfl<|z8 rfl rfl rfl<|z8 rfl rfl rfl<|z8 rfl rfl rfl<|z2 (zu (v := .bool _) rfl rfl rfl)<|z6 ?_
    exact ⟨_, ⟨rfl, rfl, rfl, rfl, trivial⟩, ⟨rfl, trivial⟩, ⟨_, (.refl _), rfl⟩, by have h : ¬ l.length = f.vars.length := (by intro e; rw [e] at c2; simp at c2); simp [h]⟩
   ·have h1 : l.length = f.vars.length := by have h : (!decide ((l.length : Int) = (f.vars.length : Int))) = false := c2; simp at h; omega
    refine zb rfl rfl c2<|z2 (zc (v := .int _ _) rfl)<|zb rfl rfl c2<|z2 (yn rfl rfl)<|z2 (zt (v := .bool _) rfl c2 rfl)<|z2 (zc (v := .bool _) rfl)<|y3 (s := 29) rfl (fun c3 => ?_) (fun c3 => ?_)
    ·refine z8 rfl rfl c3<|z8 rfl rfl c3<|z8 rfl rfl c3<|z8 rfl rfl c3<|z8 rfl rfl c3<|z2 (zu (v := .bool _) rfl c3 rfl)<|z2 (zc (v := .bool _) rfl)<|z8 rfl rfl rfl<|z8 rfl rfl rfl<|z8 rfl rfl rfl<|z8 rfl rfl rfl<|z8 rfl rfl rfl<|z8 rfl rfl rfl<|z8 rfl rfl rfl<|z8 rfl rfl rfl<|z8 rfl rfl rfl<|z2 (zu (v := .bool _) rfl rfl rfl)<|z6 ?_
     exact ⟨_, ⟨rfl, rfl, rfl, rfl, trivial⟩, ⟨rfl, trivial⟩, ⟨_, (.refl _), rfl⟩, by have h : v < 0 := (by simpa using c3); simp; omega⟩
    ·have h2 : ¬ v < 0 := by simpa using c3
     refine zb rfl rfl c3<|z2 (zc (v := .int _ _) rfl)<|zb rfl rfl c3<|z2 (zg underlying26 rfl sizeOf22 (by decide) rfl rfl)<|zb rfl rfl c3<|z2 (zf (c := .fro _ _) isAgg22 rfl)<|zb rfl rfl c3<|z2 (yb underlying22 rfl)<|zb rfl rfl c3<|z2 (qi rfl rfl)<|z2 (zt (v := .bool _) rfl c3 rfl)<|z2 (zc (v := .bool _) rfl)<|y3 (s := 36) rfl (fun c4 => ?_) (fun c4 => ?_)
     ·refine z8 rfl rfl c4<|z8 rfl rfl c4<|z8 rfl rfl c4<|z8 rfl rfl c4<|z8 rfl rfl c4<|z8 rfl rfl c4<|z8 rfl rfl c4<|z8 rfl rfl c4<|z8 rfl rfl c4<|z2 (zu (v := .bool _) rfl c4 rfl)<|z6 ?_
      exact ⟨_, ⟨rfl, rfl, rfl, rfl, trivial⟩, ⟨rfl, trivial⟩, ⟨_, (.refl _), rfl⟩, by have h : (f.vars.length : Int) ≤ v := (by simpa using c4); simp; omega⟩
     ·have h3 : ¬ (f.vars.length : Int) ≤ v := by simpa using c4
      have hmk0 := makersT_get (f := f) (v := v.toNat) (by omega)
      rw [show ((v.toNat : Nat) : Int) = v by omega] at hmk0
      refine zb rfl rfl c4<|z2 (zc (v := .po _ _) rfl)<|zb rfl rfl c4<|z2 (yv rfl)<|zb rfl rfl c4<|z2 (y5 underlying125 rfl sizeOf102 (by decide) rfl rfl)<|zb rfl rfl c4<|z2 (y8 (c := .fro _ _) isAgg102 rfl ⟨_, .head⟩ rfl)<|zb rfl rfl c4<|z2 (zc (v := .int _ _) rfl)<|zb rfl rfl c4<|z2 (yd (j := v.toNat) underlying102 sizeOf109 rfl rfl (by omega) hmk0)<|zb rfl rfl c4<|z2 (zg underlying109 rfl sizeOf3 (by decide) rfl rfl)<|zb rfl rfl c4<|z2 (zf (c := .int _ _) isAgg3 rfl)<|zb rfl rfl c4<|z2 (yn rfl rfl)<|z2 (zt (v := .bool _) rfl c4 rfl)<|z6 ?_
      exact ⟨_, ⟨rfl, rfl, rfl, rfl, trivial⟩, ⟨rfl, trivial⟩, ⟨_, (.refl _), rfl⟩, by rw [Bool.eq_iff_iff]; simp [h1]; omega⟩
 ·rintro u hu
  subst hu
  refine y9 rfl (fun c => ?_) (fun c => ?_)
  ·have hc : ¬ (l.length = f.vars.length ∧ 0 ≤ v ∧ v < f.vars.length ∧ 0 ≤ (makerT f v).1) := notdecT c
   have hb : ruleB f l v = false := by unfold ruleB; rw [decide_eq_false hc, Bool.and_false]
   refine za<|z7 rfl<|zh (iNone) rfl<|zj sizeOf74 rfl rfl rfl rfl rfl rfl (.tail .head) rfl<|z2 (zd (v := .bool _) rfl)<|z6<|zo<|afin.c1t (y := .bool _) rfl rfl ⟨_, (.tail .head)⟩ isAgg74 sizeOf74 rfl ?_
   rw [ruleP, hb, if_neg (by decide)]; try rfl
  ·have hc : l.length = f.vars.length ∧ 0 ≤ v ∧ v < f.vars.length ∧ 0 ≤ (makerT f v).1 := notdecF c
   obtain ⟨hll, h0, h1, hm⟩ := hc
   have hb : ruleB f l v = true := by unfold ruleB; rw [hs, decide_eq_true ⟨hll, h0, h1, hm⟩]; rfl
   have hvv : ((v.toNat : Nat) : Int) = v := by omega
   have hvr := vrule_spec (E := E) f hF l (chkL f) (chkL_len f) (.fro 2 (l.map encZ)) (i := i6) (HL := .cells 74 [.int .i64 0, .int .i64 0]) (fun ha => of_fro f hS (chkL f) l hll i6 _ ha) (fun u _ => lv_ok ho u) v.toNat (by omega) (by rw [hvv]; exact hm)
   rw [rule_chk hS (by omega) (by rw [hvv]; exact hm) hF.once, hvv] at hvr
   refine zp<|za<|z7 rfl<|z2 (zc (v := .po _ _) rfl)<|z2 (zc (v := .fro _ _) rfl)<|z2 (yv rfl)<|z2 (y5 underlying125 rfl sizeOf41 (by decide) rfl rfl)<|qk (l := [_]) (new := [_, _, _, _, _, _]) sizeOf41 rfl rfl rfl rfl rfl rfl .head rfl rfl<|z6<|yw (yo (t := 8) rfl .head)<|za<|z7 rfl<|z2 (zc (v := .pf _) rfl)<|z2 (zc (v := .int _ _) rfl)<|yc rfl (y4 (.l (.rest _))) (hvr) ?_
   rintro r54 O54 ⟨rfl, rfl⟩
   refine zj sizeOf74 rfl rfl rfl rfl rfl rfl .head rfl<|z2 (zd (v := .bool _) rfl)<|z6<|zo<|afin.c1t (y := .bool _) rfl rfl ⟨_, .head⟩ isAgg74 sizeOf74 rfl ?_
   rw [ruleP, hb, if_pos rfl]; try rfl
theorem vRule_bad (f : PFunc) (hf : small f) (hL : Letters E) (l : List Rng) (ho : ∀ r ∈ l, ok64 r) (hl : l.length ≤ 9223372036854775807) (v : Int) (hs : ¬ (typedB f && singB f) = true) : AFun Tryz.prog E 40 [.agg (encF f), .fro 2 (l.map encZ), .int .i64 v] (.tup [.agg (encZ (ruleP f l v)), .bool (ruleB f l v)]) := by
 have hs2 : (typedB f && singB f) = false := by simpa using hs
 have hlk := look_bad (E := E) f hf hL hs2
 have hb : ruleB f l v = false := by unfold ruleB; rw [hs2]; rfl
 refine zx func40 rfl (by decide) rfl<|za<|z7 rfl<|yk (cs := _) rfl rfl rfl<|zz (cs := [.int .i64 0, .int .i64 0]) zeroValue74 rfl rfl<|fun i6 => z2 (zd (v := .bool _) rfl)<|z6<|za<|z7 rfl<|z2 (zr isAgg26 sizeOf26 rfl rfl)<|zh (hlk) rfl<|z2 (zc (v := .tup _) rfl)<|z2 (yp (v := .raw _) rfl rfl)<|z2 (yp (v := .int _ _) rfl rfl)<|z2 (zd (v := .raw _) rfl)<|z2 (zd (v := .int _ _) rfl)<|z6<|za<|za<|z7 rfl<|z2 (zc (v := .int _ _) rfl)<|z2 (yz rfl rfl)<|z2 (zc (v := .bool _) rfl)<|z8 rfl rfl rfl<|z8 rfl rfl rfl<|z8 rfl rfl rfl<|z8 rfl rfl rfl<|z8 rfl rfl rfl<|z8 rfl rfl rfl<|z2 (zu (v := .bool _) rfl rfl rfl)<|z2 (zc (v := .bool _) rfl)<|z8 rfl rfl rfl<|z8 rfl rfl rfl<|z2 (zu (v := .bool _) rfl rfl rfl)<|z2 (zc (v := .bool _) rfl)<|z8 rfl rfl rfl<|z8 rfl rfl rfl<|z8 rfl rfl rfl<|z8 rfl rfl rfl<|z8 rfl rfl rfl ?_
 refine z2 (zu (v := .bool _) rfl rfl rfl)<|z2 (zc (v := .bool _) rfl)<|z8 rfl rfl rfl<|z8 rfl rfl rfl<|z8 rfl rfl rfl<|z8 rfl rfl rfl<|z8 rfl rfl rfl<|z8 rfl rfl rfl<|z8 rfl rfl rfl<|z8 rfl rfl rfl<|z8 rfl rfl rfl<|z2 (zu (v := .bool _) rfl rfl rfl)<|z6<|q4 rfl rfl<|za<|z7 rfl<|zh (iNone) rfl<|zj sizeOf74 rfl rfl rfl rfl rfl rfl .head rfl<|z2 (zd (v := .bool _) rfl)<|z6<|zo<|afin.c1t (y := .bool _) rfl rfl ⟨_, .head⟩ isAgg74 sizeOf74 rfl ?_
 rw [ruleP, hb, if_neg (by decide)]; try rfl
theorem vRule_spec (f : PFunc) (hf : small f) (hL : Letters E) (l : List Rng) (ho : ∀ r ∈ l, ok64 r) (hl : l.length ≤ 9223372036854775807) (v : Int) : AFun Tryz.prog E 40 [.agg (encF f), .fro 2 (l.map encZ), .int .i64 v] (.tup [.agg (encZ (ruleP f l v)), .bool (ruleB f l v)]) := by
 by_cases hs : (typedB f && singB f) = true
 ·exact vRule_ok f hf hL l ho hl v hs
 ·exact vRule_bad f hf hL l ho hl v hs
end Go.Proofs.YtjnpcfpecilejaaGreatDoor
