/- The phi that makes a variable; the order of a round; what each has first. Plain law. No conditions. -/
import Derived.Test.YtjnpcfpecilejaaGreatDoorZp
import Derived.Test.YtjnpcfpecilejaaGreatDoorZo
set_option linter.unusedVariables false
set_option linter.unusedSimpArgs false
set_option linter.unusedSectionVars false
namespace Go.Proofs.YtjnpcfpecilejaaGreatDoor
open Go.Proofs.Tryz
open Go.Proofs
variable {E : World}
set_option maxRecDepth 20000
def alwB (op : Int) (a b : Rng) : Bool := if op = 7 then decide (a.1 = a.2) && decide (a = b) else if op = 8 then decide (a.2 < b.1) else if op = 9 then decide (a.2 ≤ b.1) else false
def nevB (op : Int) (a b : Rng) : Bool := if op = 7 then decide ((rMeet a b).2 < (rMeet a b).1) else if op = 8 then decide (b.2 ≤ a.1) else if op = 9 then decide (b.2 < a.1) else false
theorem truthP_b (op : Int) (a b : Rng) : truthP op a b = if a.2 < a.1 ∨ b.2 < b.1 then noR else truP (alwB op a b) (nevB op a b) := by
 unfold truthP alwB nevB
 by_cases h : a.2 < a.1 ∨ b.2 < b.1
 ·rw [if_pos h, if_pos h]
 ·rw [if_neg h, if_neg h]
  by_cases h7 : op = 7
  ·rw [if_pos h7, if_pos h7, if_pos h7]
  ·rw [if_neg h7, if_neg h7, if_neg h7]
   by_cases h8 : op = 8
   ·rw [if_pos h8, if_pos h8, if_pos h8]
   ·rw [if_neg h8, if_neg h8, if_neg h8]
    by_cases h9 : op = 9
    ·rw [if_pos h9, if_pos h9, if_pos h9]
    ·rw [if_neg h9, if_neg h9, if_neg h9]; rfl
theorem rng_eq (a b : Rng) : decide (a.1 = b.1 ∧ a.2 = b.2) = decide (a = b) := decide_eq_decide.2 ⟨fun h => Prod.ext h.1 h.2, fun h => by rw [h]; exact ⟨rfl, rfl⟩⟩
theorem iTruth (op : Int) (a b : Rng) : AFun Tryz.prog E 179 [.int .i64 op, .agg (encZ a), .agg (encZ b)] (.agg (encZ (truthP op a b))) := by
 rw [truthP_b]
 refine zy func179 rfl (by decide) rfl<|za<|z7 rfl<|yc (cs := _) rfl rfl rfl<|yc (cs := _) rfl rfl rfl<|y1 (cs := [.int .i64 0, .int .i64 0]) zeroValue74 rfl rfl<|fun i6 => z6<|za<|z7 rfl<|z2 (zd (v := .bool _) rfl)<|z2 (zd (v := .bool _) rfl)<|z6<|za<|za<|z7 rfl<|z2 (zc (v := .int _ _) rfl)<|z6<|yq (γ := Bool × Bool) [4, 5, 6] (fun g => [(8, .bool g.1), (7, .bool g.2)]) (fun g => [(i6, .cells 74 [.int .i64 0, .int .i64 0])]) (fun g => g.1 = alwB op a b ∧ g.2 = nevB op a b) ?_ (fun _ _ h => h) ?_
 ·refine zq<|za<|z7 rfl<|z2 (y6 rfl rfl)<|z2 (zd (v := .bool _) rfl)<|z6<|zt rfl (fun c7 => ?_) (fun c7 => ?_)
  ·refine za<|z7 rfl<|z2 (zg underlying74 rfl sizeOf2 (by decide) rfl rfl)<|z2 (zf (c := .int _ _) isAgg2 rfl)<|z2 (zg underlying74 rfl sizeOf2 (by decide) rfl rfl)<|z2 (zf (c := .int _ _) isAgg2 rfl)<|z2 (y6 rfl rfl)<|z2 (zc (v := .bool _) rfl)<|zz (s := 17) rfl (fun c => ?_) (fun c => ?_)
   ·refine zb rfl rfl c<|z2 (zo isAgg74 sizeOf74 rfl rfl)<|zb rfl rfl c<|z2 (zo isAgg74 sizeOf74 rfl rfl)<|zb rfl rfl c<|z2 (Gv.eqlP (xs := [.int _ _, .int _ _]) (ys := [.int _ _, .int _ _]) (by kernel_rfl) rfl rfl (fun w => eq_range _ _ _ _ w))<|z2 (zu (v := .bool _) rfl c rfl)<|z2 (zd (v := .bool _) rfl)<|z6<|z7 rfl<|z2 (zo isAgg74 sizeOf74 rfl rfl)<|z2 (zo isAgg74 sizeOf74 rfl rfl)<|zh (iMeet _ _) rfl<|zh (iEmpty _) rfl<|z2 (zd (v := .bool _) rfl)<|z6 ?_
    exact ⟨(decide (a.1 = b.1 ∧ a.2 = b.2), decide ((rMeet a b).2 < (rMeet a b).1)), ⟨rfl, rfl, rfl, trivial⟩, ⟨rfl, rfl, trivial⟩, ⟨_, (.refl _), rfl⟩, by dsimp only; exact ⟨by rw [alwB, if_pos c7, rng_eq, show decide (a.1 = a.2) = true from c]; rfl, by rw [nevB, if_pos c7]⟩⟩
   ·refine z8 rfl rfl c<|z8 rfl rfl c<|z8 rfl rfl c<|z2 (zw (v := .bool _) rfl c rfl)<|z2 (zd (v := .bool _) rfl)<|z6<|z7 rfl<|z2 (zo isAgg74 sizeOf74 rfl rfl)<|z2 (zo isAgg74 sizeOf74 rfl rfl)<|zh (iMeet _ _) rfl<|zh (iEmpty _) rfl<|z2 (zd (v := .bool _) rfl)<|z6 ?_
    exact ⟨(false, decide ((rMeet a b).2 < (rMeet a b).1)), ⟨rfl, rfl, rfl, trivial⟩, ⟨rfl, rfl, trivial⟩, ⟨_, (.refl _), rfl⟩, by dsimp only; exact ⟨by rw [alwB, if_pos c7, show decide (a.1 = a.2) = false from c]; rfl, by rw [nevB, if_pos c7]⟩⟩
  ·refine za<|z7 rfl<|z2 (y6 rfl rfl)<|z2 (zd (v := .bool _) rfl)<|z6<|zt rfl (fun c8 => ?_) (fun c8 => ?_)
   ·refine yb (fun j => false) (by kernel_rfl) rfl (y4 (.rest _))<|ze (i := 0) rfl (by kernel_rfl) (zg underlying74 rfl sizeOf2 (by decide) rfl rfl)<|ze (i := 1) rfl (by kernel_rfl) (zf (c := .int _ _) isAgg2 rfl)<|ze (i := 2) rfl (by kernel_rfl) (zg underlying74 rfl sizeOf2 (by decide) rfl rfl)<|ze (i := 3) rfl (by kernel_rfl) (zf (c := .int _ _) isAgg2 rfl)<|ze (i := 4) rfl (by kernel_rfl) (yj rfl rfl)<|ze (i := 5) rfl (by kernel_rfl) (zg underlying74 rfl sizeOf2 (by decide) rfl rfl)<|ze (i := 6) rfl (by kernel_rfl) (zf (c := .int _ _) isAgg2 rfl)<|ze (i := 7) rfl (by kernel_rfl) (zg underlying74 rfl sizeOf2 (by decide) rfl rfl)<|ze (i := 8) rfl (by kernel_rfl) (zf (c := .int _ _) isAgg2 rfl)<|ze (i := 9) rfl (by kernel_rfl) (qf rfl rfl)<|ze (i := 10) rfl (by kernel_rfl) (zd (v := .bool _) rfl)<|ze (i := 11) rfl (by kernel_rfl) (zd (v := .bool _) rfl)<|ya (by kernel_rfl) ?_
    exact ⟨(decide (a.2 < b.1), decide (b.2 ≤ a.1)), ⟨rfl, rfl, rfl, trivial⟩, ⟨rfl, rfl, trivial⟩, ⟨_, (.refl _), rfl⟩, by dsimp only; exact ⟨by rw [alwB, if_neg c7, if_pos c8], by rw [nevB, if_neg c7, if_pos c8]⟩⟩
   ·refine za<|z7 rfl<|z2 (y6 rfl rfl)<|z2 (zd (v := .bool _) rfl)<|z6<|zt rfl (fun c9 => ?_) (fun c9 => ?_)
    ·refine yb (fun j => false) (by kernel_rfl) rfl (y4 (.rest _))<|ze (i := 0) rfl (by kernel_rfl) (zg underlying74 rfl sizeOf2 (by decide) rfl rfl)<|ze (i := 1) rfl (by kernel_rfl) (zf (c := .int _ _) isAgg2 rfl)<|ze (i := 2) rfl (by kernel_rfl) (zg underlying74 rfl sizeOf2 (by decide) rfl rfl)<|ze (i := 3) rfl (by kernel_rfl) (zf (c := .int _ _) isAgg2 rfl)<|ze (i := 4) rfl (by kernel_rfl) (Gv.leq rfl rfl)<|ze (i := 5) rfl (by kernel_rfl) (zg underlying74 rfl sizeOf2 (by decide) rfl rfl)<|ze (i := 6) rfl (by kernel_rfl) (zf (c := .int _ _) isAgg2 rfl)<|ze (i := 7) rfl (by kernel_rfl) (zg underlying74 rfl sizeOf2 (by decide) rfl rfl)<|ze (i := 8) rfl (by kernel_rfl) (zf (c := .int _ _) isAgg2 rfl)<|ze (i := 9) rfl (by kernel_rfl) (q7 rfl rfl)<|ze (i := 10) rfl (by kernel_rfl) (zd (v := .bool _) rfl)<|ze (i := 11) rfl (by kernel_rfl) (zd (v := .bool _) rfl)<|ya (by kernel_rfl) ?_
     exact ⟨(decide (a.2 ≤ b.1), decide (b.2 < a.1)), ⟨rfl, rfl, rfl, trivial⟩, ⟨rfl, rfl, trivial⟩, ⟨_, (.refl _), rfl⟩, by dsimp only; exact ⟨by rw [alwB, if_neg c7, if_neg c8, if_pos c9], by rw [nevB, if_neg c7, if_neg c8, if_pos c9]⟩⟩
    ·refine zk ?_
     exact ⟨(false, false), ⟨rfl, rfl, rfl, trivial⟩, ⟨rfl, rfl, trivial⟩, ⟨_, (.refl _), rfl⟩, by dsimp only; exact ⟨by rw [alwB, if_neg c7, if_neg c8, if_neg c9], by rw [nevB, if_neg c7, if_neg c8, if_neg c9]⟩⟩
 ·rintro ⟨al, ne⟩ ⟨h1, h2⟩
  dsimp only at h1 h2
  rw [← h1, ← h2]
  refine za<|zq<|za<|yq (γ := Bool) [6, 7, 8] (fun u => [(50, .bool u)]) (fun u => [(i6, .cells 74 [.int .i64 0, .int .i64 0])]) (fun u => u = decide (a.2 < a.1 ∨ b.2 < b.1)) ?_ (fun _ _ h => h) ?_
  ·refine z7 rfl<|z2 (zo isAgg74 sizeOf74 rfl rfl)<|zh (iEmpty _) rfl<|z2 (zc (v := .bool _) rfl)<|zz (s := 53) rfl (fun c1 => ?_) (fun c1 => ?_)
   ·refine z8 rfl rfl c1<|z8 rfl rfl c1<|z2 (zu (v := .bool _) rfl c1 rfl)<|z2 (zd (v := .bool _) rfl)<|z6 ?_
    exact ⟨_, ⟨rfl, rfl, rfl, trivial⟩, ⟨rfl, trivial⟩, ⟨_, (.refl _), rfl⟩, by simp_all <;> omega⟩
   ·refine zb rfl rfl c1<|z2 (zo isAgg74 sizeOf74 rfl rfl)<|zb rfl rfl c1<|zh (iEmpty _) rfl<|z2 (zw (v := .bool _) rfl c1 rfl)<|z2 (zd (v := .bool _) rfl)<|z6 ?_
    exact ⟨_, ⟨rfl, rfl, rfl, trivial⟩, ⟨rfl, trivial⟩, ⟨_, (.refl _), rfl⟩, by simp_all <;> omega⟩
  ·rintro u hu
   subst hu
   refine zt rfl (fun cn => ?_) (fun cn => ?_)
   ·refine za<|z7 rfl<|zh (iNone) rfl<|zi sizeOf74 rfl rfl rfl rfl rfl rfl .head rfl<|z6<|zj<|yl rfl ⟨_, .head⟩ isAgg74 sizeOf74 rfl ?_
    rw [if_pos cn]; try rfl
   ·rw [if_neg cn]
    refine za<|z7 rfl<|z2 (zc (v := .bool _) rfl)<|z2 (zd (v := .bool _) rfl)<|z6<|y8 rfl (fun c1 => ?_) (fun c1 => ?_)
    ·refine za<|z7 rfl<|zh (iOf _) rfl<|zi sizeOf74 rfl rfl rfl rfl rfl rfl .head rfl<|z6<|zj<|yl rfl ⟨_, .head⟩ isAgg74 sizeOf74 rfl ?_
     rw [show al = true from c1]; try rfl
    ·refine za<|z7 rfl<|z2 (zc (v := .bool _) rfl)<|z2 (zd (v := .bool _) rfl)<|z6<|y8 rfl (fun c2 => ?_) (fun c2 => ?_)
     ·refine za<|z7 rfl<|zh (iOf _) rfl<|zi sizeOf74 rfl rfl rfl rfl rfl rfl .head rfl<|z6<|zj<|yl rfl ⟨_, .head⟩ isAgg74 sizeOf74 rfl ?_
      rw [show al = false from c1, show ne = true from c2]; try rfl
     ·refine zk<|za<|z7 rfl<|z2 (y9 (cps := [(0, [_]), (1, [_])]) (rs := [_, _]) pl74 rfl rfl rfl)<|zi sizeOf74 rfl rfl rfl rfl rfl rfl .head rfl<|z6<|zj<|yl rfl ⟨_, .head⟩ isAgg74 sizeOf74 rfl ?_
      rw [show al = false from c1, show ne = false from c2]; try rfl
theorem iCut (num : Int) {a b : Rng} (hb : ok64 b) : AFun Tryz.prog E 180 [.int .i64 num, .agg (encZ a), .agg (encZ b)] (.agg (encZ (cutP num a b))) := by
 have hb1 := hb.1; have hb2 := hb.2
 unfold is64 at hb1 hb2
 have hm : m64 = -9223372036854775808 := rfl
 have hM : M64 = 9223372036854775807 := rfl
 refine zy func180 rfl (by decide) rfl<|za<|z7 rfl<|yc (cs := _) rfl rfl rfl<|yc (cs := _) rfl rfl rfl<|y1 (cs := [.int .i64 0, .int .i64 0]) zeroValue74 rfl rfl<|fun i6 => z6<|za<|za<|yq (γ := Bool) [0, 4, 5, 6] (fun u => [(12, .bool u)]) (fun u => [(i6, .cells 74 [.int .i64 0, .int .i64 0])]) (fun u => u = decide (a.2 < a.1 ∨ b.2 < b.1)) ?_ (fun _ _ h => h) ?_
 ·refine z7 rfl<|z2 (zo isAgg74 sizeOf74 rfl rfl)<|zh (iEmpty _) rfl<|z2 (zc (v := .bool _) rfl)<|zz (s := 9) rfl (fun c2 => ?_) (fun c2 => ?_)
  ·refine z8 rfl rfl c2<|z8 rfl rfl c2<|z2 (zu (v := .bool _) rfl c2 rfl)<|z6 ?_
   exact ⟨_, ⟨rfl, rfl, rfl, rfl, trivial⟩, ⟨rfl, trivial⟩, ⟨_, (.refl _), rfl⟩, by simp_all <;> omega⟩
  ·refine zb rfl rfl c2<|z2 (zo isAgg74 sizeOf74 rfl rfl)<|zb rfl rfl c2<|zh (iEmpty _) rfl<|z2 (zw (v := .bool _) rfl c2 rfl)<|z6 ?_
   exact ⟨_, ⟨rfl, rfl, rfl, rfl, trivial⟩, ⟨rfl, trivial⟩, ⟨_, (.refl _), rfl⟩, by simp_all <;> omega⟩
 ·rintro u hu
  subst hu
  refine zt rfl (fun cn => ?_) (fun cn => ?_)
  ·refine za<|z7 rfl<|zh (iNone) rfl<|zi sizeOf74 rfl rfl rfl rfl rfl rfl .head rfl<|z6<|zj<|yl rfl ⟨_, .head⟩ isAgg74 sizeOf74 rfl ?_
   rw [cutP, if_pos cn]; try rfl
  ·rw [cutP, if_neg cn]
   refine zk<|za<|za<|z7 rfl<|z2 (zc (v := .int _ _) rfl)<|z6<|zq<|za<|z7 rfl<|z2 (y6 rfl rfl)<|z2 (zd (v := .bool _) rfl)<|z6<|zt rfl (fun c0 => ?_) (fun c0 => ?_)
   ·refine za<|za<|z7 rfl<|z2 (zg underlying74 rfl sizeOf2 (by decide) rfl rfl)<|z2 (zf (c := .int _ _) isAgg2 rfl)<|z2 (y6 rfl rfl)<|z6<|zt rfl (fun cm => ?_) (fun cm => ?_)
    ·refine za<|z7 rfl<|zh (iNone) rfl<|zi sizeOf74 rfl rfl rfl rfl rfl rfl .head rfl<|z6<|zj<|yl rfl ⟨_, .head⟩ isAgg74 sizeOf74 rfl ?_
     rw [if_pos c0, if_pos (show b.2 = m64 from cm)]; try rfl
    ·refine zk<|za<|z7 rfl<|z2 (zg underlying74 rfl sizeOf2 (by decide) rfl rfl)<|z2 (zf (c := .int _ _) isAgg2 rfl)<|z2 (zg underlying74 rfl sizeOf2 (by decide) rfl rfl)<|z2 (zf (c := .int _ _) isAgg2 rfl)<|z2 (zg underlying74 rfl sizeOf2 (by decide) rfl rfl)<|z2 (zf (c := .int _ _) isAgg2 rfl)<|z2 (Gv.sub rfl rfl (by unfold I64; omega))<|z2 (Gv.minI rfl rfl)<|zh (iMade _ _) rfl<|zi sizeOf74 rfl rfl rfl rfl rfl rfl .head rfl<|z6<|zj<|yl rfl ⟨_, .head⟩ isAgg74 sizeOf74 rfl ?_
     rw [if_pos c0, if_neg (show ¬ b.2 = m64 from cm)]; try rfl
   ·rw [if_neg c0]
    refine za<|z7 rfl<|z2 (y6 rfl rfl)<|z2 (zd (v := .bool _) rfl)<|z6<|zt rfl (fun c1 => ?_) (fun c1 => ?_)
    ·refine za<|z7 rfl<|z2 (zg underlying74 rfl sizeOf2 (by decide) rfl rfl)<|z2 (zf (c := .int _ _) isAgg2 rfl)<|z2 (zg underlying74 rfl sizeOf2 (by decide) rfl rfl)<|z2 (zf (c := .int _ _) isAgg2 rfl)<|z2 (zg underlying74 rfl sizeOf2 (by decide) rfl rfl)<|z2 (zf (c := .int _ _) isAgg2 rfl)<|z2 (Gv.minI rfl rfl)<|zh (iMade _ _) rfl<|zi sizeOf74 rfl rfl rfl rfl rfl rfl .head rfl<|z6<|zj<|yl rfl ⟨_, .head⟩ isAgg74 sizeOf74 rfl ?_
     rw [if_pos c1]; try rfl
    ·rw [if_neg c1]
     refine za<|z7 rfl<|z2 (y6 rfl rfl)<|z2 (zd (v := .bool _) rfl)<|z6<|zt rfl (fun c2 => ?_) (fun c2 => ?_)
     ·refine za<|z7 rfl<|z2 (zo isAgg74 sizeOf74 rfl rfl)<|z2 (zo isAgg74 sizeOf74 rfl rfl)<|zh (iMeet _ _) rfl<|zi sizeOf74 rfl rfl rfl rfl rfl rfl .head rfl<|z6<|zj<|yl rfl ⟨_, .head⟩ isAgg74 sizeOf74 rfl ?_
      rw [if_pos c2]; try rfl
     ·rw [if_neg c2]
      refine za<|z7 rfl<|z2 (y6 rfl rfl)<|z2 (zd (v := .bool _) rfl)<|z6<|zt rfl (fun c3 => ?_) (fun c3 => ?_)
      ·refine za<|z7 rfl<|z2 (zg underlying74 rfl sizeOf2 (by decide) rfl rfl)<|z2 (zf (c := .int _ _) isAgg2 rfl)<|z2 (zg underlying74 rfl sizeOf2 (by decide) rfl rfl)<|z2 (zf (c := .int _ _) isAgg2 rfl)<|z2 (Gv.maxI rfl rfl)<|z2 (zg underlying74 rfl sizeOf2 (by decide) rfl rfl)<|z2 (zf (c := .int _ _) isAgg2 rfl)<|zh (iMade _ _) rfl<|zi sizeOf74 rfl rfl rfl rfl rfl rfl .head rfl<|z6<|zj<|yl rfl ⟨_, .head⟩ isAgg74 sizeOf74 rfl ?_
       rw [if_pos c3]; try rfl
      ·rw [if_neg c3]
       refine za<|z7 rfl<|z2 (y6 rfl rfl)<|z2 (zd (v := .bool _) rfl)<|z6<|zt rfl (fun c4 => ?_) (fun c4 => ?_)
       ·refine za<|za<|z7 rfl<|z2 (zg underlying74 rfl sizeOf2 (by decide) rfl rfl)<|z2 (zf (c := .int _ _) isAgg2 rfl)<|z2 (y6 rfl rfl)<|z6<|zt rfl (fun cm => ?_) (fun cm => ?_)
        ·refine za<|z7 rfl<|zh (iNone) rfl<|zi sizeOf74 rfl rfl rfl rfl rfl rfl .head rfl<|z6<|zj<|yl rfl ⟨_, .head⟩ isAgg74 sizeOf74 rfl ?_
         rw [if_pos c4, if_pos (show b.1 = M64 from cm)]; try rfl
        ·refine zk<|za<|z7 rfl<|z2 (zg underlying74 rfl sizeOf2 (by decide) rfl rfl)<|z2 (zf (c := .int _ _) isAgg2 rfl)<|z2 (zg underlying74 rfl sizeOf2 (by decide) rfl rfl)<|z2 (zf (c := .int _ _) isAgg2 rfl)<|z2 (yi rfl rfl (by unfold I64; omega))<|z2 (Gv.maxI rfl rfl)<|z2 (zg underlying74 rfl sizeOf2 (by decide) rfl rfl)<|z2 (zf (c := .int _ _) isAgg2 rfl)<|zh (iMade _ _) rfl<|zi sizeOf74 rfl rfl rfl rfl rfl rfl .head rfl<|z6<|zj<|yl rfl ⟨_, .head⟩ isAgg74 sizeOf74 rfl ?_
         rw [if_pos c4, if_neg (show ¬ b.1 = M64 from cm)]; try rfl
       ·refine zk<|za<|z7 rfl<|z2 (zo isAgg74 sizeOf74 rfl rfl)<|zi sizeOf74 rfl rfl rfl rfl rfl rfl .head rfl<|z6<|zj<|yl rfl ⟨_, .head⟩ isAgg74 sizeOf74 rfl ?_
        rw [if_neg c4]; try rfl
end Go.Proofs.YtjnpcfpecilejaaGreatDoor
namespace Go.Proofs.YtjnpcfpecilejaaGreatDoor
open Go.Proofs.Tryz
open Go.Proofs Go.Lib Go.Shelf Go.RowKit
variable {E : World}
set_option maxRecDepth 20000
theorem ra_at {rs : List Rng} {i : Nat} (h : i < rs.length) : rs[i]? = some (ra rs i) := by unfold ra; rw [List.getElem?_eq_getElem h]; rfl
def okRs (rs : List Rng) : Prop := ∀ r ∈ rs, ok64 r ∧ r.1 ≤ r.2
theorem okRs.at {rs : List Rng} (h : okRs rs) {i : Nat} (hi : i < rs.length) : ok64 (ra rs i) ∧ (ra rs i).1 ≤ (ra rs i).2 := by
 have := ra_at hi
 exact h _ (List.mem_of_getElem? this)
theorem rMeet_no (a b : Rng) : (!decide ((rMeet a b).1 = noR.1 ∧ (rMeet a b).2 = noR.2)) = !decide ((rMeet a b).2 < (rMeet a b).1) := by
 congr 1
 rw [decide_eq_decide]
 constructor
 ·rintro ⟨h1, h2⟩; rw [h1, h2]; decide
 ·intro h; rw [rMeet_nrm a b h]; exact ⟨rfl, rfl⟩
set_option maxHeartbeats 4000000 in
theorem refInst22_spec (x : PInst) (rs : List Rng) (chk : Bool) (hl : rs.length = (takesL x.op).length) (hok : okRs rs) (hop : 0 ≤ x.op ∧ x.op ≤ 26) : AFun Tryz.prog E 77 [.agg (encInst x), .fro 2 (rs.map encZ), .bool chk] (.agg (encZ (instQ x.op x.num rs chk))) := by
 rw [instQ]
 refine zy func77 rfl (by decide) rfl<|za<|z7 rfl<|yc (cs := _) rfl rfl rfl<|y1 (cs := [.int .i64 0, .int .i64 0]) zeroValue75 rfl rfl<|fun i6 => z6<|za<|z7 rfl<|zh (rType_s (t := 0) (by decide)) rfl<|y1 (cs := [.int .i64 0, .int .i64 0]) zeroValue75 rfl rfl<|fun i7 => zi sizeOf75 rfl rfl rfl rfl rfl rfl .head rfl<|z6<|yw (yp (t := 7) rfl .head)<|za<|za<|z7 rfl<|z2 (zg underlying33 rfl sizeOf31 (by decide) rfl rfl)<|z2 (zf (c := .int _ _) isAgg31 rfl)<|z6<|zq<|za<|z7 rfl<|z2 (y6 rfl rfl)<|z2 (zd (v := .bool _) rfl)<|z6<|zt rfl (fun c0 => ?_) (fun c0 => ?_)
 ·refine za<|z7 rfl<|z2 (zg underlying33 rfl sizeOf2 (by decide) rfl rfl)<|z2 (zf (c := .int _ _) isAgg2 rfl)<|z2 (zg underlying33 rfl sizeOf2 (by decide) rfl rfl)<|z2 (zf (c := .int _ _) isAgg2 rfl)<|z2 (y9 (cps := [(0, [_]), (1, [_])]) (rs := [_, _]) pl75 rfl rfl rfl)<|zi sizeOf75 rfl rfl rfl rfl rfl rfl .head rfl<|z6<|zj<|yl rfl ⟨_, .head⟩ isAgg75 sizeOf75 rfl ?_
  rw [if_pos c0]; try rfl
 ·rw [if_neg c0]
  refine za<|za<|z7 rfl<|z2 (y6 rfl rfl)<|z2 (zd (v := .bool _) rfl)<|z6<|yq (γ := Bool) [1, 2, 3, 6, 7, 12] (fun u => [(20, .bool u)]) (fun u => [(i6, .cells 75 [.int .i64 0, .int .i64 0])]) (fun u => u = decide (x.op = 1 ∨ x.op = 12)) ?_ (fun _ _ h => h) ?_
  ·refine y8 rfl (fun c1 => ?_) (fun c1 => ?_)
   ·refine zk ?_
    exact ⟨_, ⟨rfl, rfl, rfl, rfl, rfl, rfl, trivial⟩, ⟨rfl, trivial⟩, ⟨_, (.refl _), rfl⟩, by simp_all⟩
   ·refine z7 rfl<|z2 (y6 rfl rfl)<|z2 (zd (v := .bool _) rfl)<|z6 ?_
    exact ⟨_, ⟨rfl, rfl, rfl, rfl, rfl, rfl, trivial⟩, ⟨rfl, trivial⟩, ⟨_, (.refl _), rfl⟩, by simp_all⟩
  ·rintro u hu
   subst hu
   refine zt rfl (fun c1 => ?_) (fun c1 => ?_)
   ·have hl1 : rs.length = 1 := by rw [hl]; rcases c1 with c | c <;> rw [c] <;> rfl
    refine za<|z7 rfl<|z2 (zc (v := .fro _ _) rfl)<|z2 (y7 (j := 0) underlying47 sizeOf75 rfl rfl rfl (ra_at (by omega)))<|z2 (zo isAgg75 sizeOf75 rfl rfl)<|zi sizeOf75 rfl rfl rfl rfl rfl rfl .head rfl<|z6<|zj<|yl rfl ⟨_, .head⟩ isAgg75 sizeOf75 rfl ?_
    rw [if_pos c1]; try rfl
   ·rw [if_neg c1]
    refine za<|za<|z7 rfl<|z2 (y6 rfl rfl)<|z2 (zd (v := .bool _) rfl)<|z6<|yq (γ := Bool) [1, 2, 3, 6, 7, 12] (fun u => [(26, .bool u)]) (fun u => [(i6, .cells 75 [.int .i64 0, .int .i64 0])]) (fun u => u = decide (x.op = 2 ∨ x.op = 3 ∨ x.op = 4)) ?_ (fun _ _ h => h) ?_
    ·refine y8 rfl (fun c2 => ?_) (fun c2 => ?_)
     ·refine zk ?_
      exact ⟨_, ⟨rfl, rfl, rfl, rfl, rfl, rfl, trivial⟩, ⟨rfl, trivial⟩, ⟨_, (.refl _), rfl⟩, by simp_all⟩
     ·refine za<|z7 rfl<|z2 (y6 rfl rfl)<|z2 (zd (v := .bool _) rfl)<|z6<|y8 rfl (fun c3 => ?_) (fun c3 => ?_)
      ·refine zk ?_
       exact ⟨_, ⟨rfl, rfl, rfl, rfl, rfl, rfl, trivial⟩, ⟨rfl, trivial⟩, ⟨_, (.refl _), rfl⟩, by simp_all⟩
      ·refine z7 rfl<|z2 (y6 rfl rfl)<|z2 (zd (v := .bool _) rfl)<|z6 ?_
       exact ⟨_, ⟨rfl, rfl, rfl, rfl, rfl, rfl, trivial⟩, ⟨rfl, trivial⟩, ⟨_, (.refl _), rfl⟩, by simp_all⟩
    ·rintro u hu
     subst hu
     refine zt rfl (fun c2 => ?_) (fun c2 => ?_)
     ·have hl1 : rs.length = 2 := by rw [hl]; rcases c2 with c | c | c <;> rw [c] <;> rfl
      obtain ⟨ha, na⟩ := hok.at (i := 0) (by omega)
      obtain ⟨hb, nb⟩ := hok.at (i := 1) (by omega)
      obtain ⟨k, hk, hk2⟩ := sum_op c2
      have hk3 : x.op - 2 = (k : Int) := by omega
      have hF := rFits (E := E) hk ha hb
      have hC := rClip (E := E) hk ha hb
      rw [← hk3] at hF hC
      have hq : (if x.op = 2 then sumQ 0 (ra rs 0) (ra rs 1) chk else if x.op = 3 then sumQ 1 (ra rs 0) (ra rs 1) chk else if x.op = 4 then sumQ 2 (ra rs 0) (ra rs 1) chk else if x.op = 5 then divQ (ra rs 0) (ra rs 1) else if x.op = 6 then remQ (ra rs 0) (ra rs 1) else if x.op = 7 then eqQ (ra rs 0) (ra rs 1) else if x.op = 8 then ltQ (ra rs 0) (ra rs 1) else if x.op = 9 then leQ (ra rs 0) (ra rs 1) else if x.op = 10 then notQ (ra rs 0) else if x.op = 11 then andQ (ra rs 0) (ra rs 1) else if x.op = 15 then rMeet (ra rs 0) (0, 64) else if x.op = 16 then rOf 0 else if x.op = 25 then cutQ x.num (ra rs 0) (ra rs 1) else if x.op = 26 then cutQ 0 (rMeet (ra rs 0) (0, M64)) (ra rs 1) else allR) = sumQ k (ra rs 0) (ra rs 1) chk := by
       rcases (by omega : k = 0 ∨ k = 1 ∨ k = 2) with rfl | rfl | rfl
       ·rw [if_pos (by omega)]
       ·rw [if_neg (by omega), if_pos (by omega)]
       ·rw [if_neg (by omega), if_neg (by omega), if_pos (by omega)]
      rw [hq, sumQ]
      refine za<|z7 rfl<|z2 (zg underlying33 rfl sizeOf31 (by decide) rfl rfl)<|z2 (zf (c := .int _ _) isAgg31 rfl)<|z2 (Gv.sub rfl rfl (by unfold I64; omega))<|z2 (zd (v := .int _ _) rfl)<|z6<|za<|za<|yq (γ := Bool) [1, 6, 7, 8] (fun u => [(43, .bool u)]) (fun u => [(i6, .cells 75 [.int .i64 0, .int .i64 0])]) (fun u => u = decide (chk = true ∨ cornF k (ra rs 0) (ra rs 1))) ?_ (fun _ _ h => h) ?_
      ·refine yb (fun j => false) (by kernel_rfl) rfl (y4 (.rest _))<|ze (i := 0) rfl (by kernel_rfl) (zc (v := .bool _) rfl)<|ze (i := 1) rfl (by kernel_rfl) (zc (v := .bool _) rfl)<|qp (s := 34) rfl (fun c => ?_) (fun c => ?_)
       ·refine ym (i := 2) rfl rfl rfl c (by kernel_rfl)<|ym (i := 3) rfl rfl rfl c (by kernel_rfl)<|ym (i := 4) rfl rfl rfl c (by kernel_rfl)<|ym (i := 5) rfl rfl rfl c (by kernel_rfl)<|ym (i := 6) rfl rfl rfl c (by kernel_rfl)<|ym (i := 7) rfl rfl rfl c (by kernel_rfl)<|ym (i := 8) rfl rfl rfl c (by kernel_rfl)<|ym (i := 9) rfl rfl rfl c (by kernel_rfl)<|ze (i := 10) rfl (by kernel_rfl) (zu (v := .bool _) rfl c rfl)<|ya (by kernel_rfl) ?_
        exact ⟨_, ⟨rfl, rfl, rfl, rfl, trivial⟩, ⟨rfl, trivial⟩, ⟨_, (.refl _), rfl⟩, by rw [show chk = true from c]; simp⟩
       ·refine yo (i := 2) rfl rfl rfl c (by kernel_rfl) (zc (v := .int _ _) rfl)<|yo (i := 3) rfl rfl rfl c (by kernel_rfl) (zc (v := .fro _ _) rfl)<|yo (i := 4) rfl rfl rfl c (by kernel_rfl) (y7 (j := 0) underlying47 sizeOf75 rfl rfl rfl (ra_at (by omega)))<|yo (i := 5) rfl rfl rfl c (by kernel_rfl) (zo isAgg75 sizeOf75 rfl rfl)<|yo (i := 6) rfl rfl rfl c (by kernel_rfl) (zc (v := .fro _ _) rfl)<|yo (i := 7) rfl rfl rfl c (by kernel_rfl) (y7 (j := 1) underlying47 sizeOf75 rfl rfl rfl (ra_at (by omega)))<|yo (i := 8) rfl rfl rfl c (by kernel_rfl) (zo isAgg75 sizeOf75 rfl rfl)<|zp (i := 9) rfl (by kernel_rfl)<|zb rfl rfl c<|zh (hF) rfl<|z6<|ze (i := 10) rfl (by kernel_rfl) (zw (v := .bool _) rfl c rfl)<|ya (by kernel_rfl) ?_
        exact ⟨_, ⟨rfl, rfl, rfl, rfl, trivial⟩, ⟨rfl, trivial⟩, ⟨_, (.refl _), rfl⟩, by rw [show chk = false from c]; simp⟩
      ·rintro u hu
       subst hu
       refine zt rfl (fun cf => ?_) (fun cf => ?_)
       ·refine za<|yb (fun j => Nat.beq j 8) (by kernel_rfl) rfl (y4 (.rest _))<|ze (i := 0) rfl (by kernel_rfl) (zc (v := .int _ _) rfl)<|ze (i := 1) rfl (by kernel_rfl) (zc (v := .fro _ _) rfl)<|ze (i := 2) rfl (by kernel_rfl) (y7 (j := 0) underlying47 sizeOf75 rfl rfl rfl (ra_at (by omega)))<|ze (i := 3) rfl (by kernel_rfl) (zo isAgg75 sizeOf75 rfl rfl)<|ze (i := 4) rfl (by kernel_rfl) (zc (v := .fro _ _) rfl)<|ze (i := 5) rfl (by kernel_rfl) (y7 (j := 1) underlying47 sizeOf75 rfl rfl rfl (ra_at (by omega)))<|ze (i := 6) rfl (by kernel_rfl) (zo isAgg75 sizeOf75 rfl rfl)<|zp (i := 7) rfl (by kernel_rfl)<|zh (hC) rfl<|z6<|yy<|q5 (i := 8) rfl (by kernel_rfl) (by kernel_rfl)<|zi sizeOf75 rfl rfl rfl rfl rfl rfl .head rfl<|z6<|q0 (by kernel_rfl)<|zj<|yl rfl ⟨_, .head⟩ isAgg75 sizeOf75 rfl ?_
        rw [if_pos cf]; try rfl
       ·refine zk<|za<|z7 rfl<|z2 (zo isAgg75 sizeOf75 rfl rfl)<|zi sizeOf75 rfl rfl rfl rfl rfl rfl .head rfl<|z6<|zj<|yl rfl ⟨_, .head⟩ isAgg75 sizeOf75 rfl ?_
        rw [if_neg cf]; try rfl
     ·rw [if_neg (by omega), if_neg (by omega), if_neg (by omega)]
      refine za<|z7 rfl<|z2 (y6 rfl rfl)<|z2 (zd (v := .bool _) rfl)<|z6<|zt rfl (fun c5 => ?_) (fun c5 => ?_)
      ·have hl1 : rs.length = 2 := by rw [hl, c5]; rfl
       obtain ⟨ha, na⟩ := hok.at (i := 0) (by omega)
       obtain ⟨hb, nb⟩ := hok.at (i := 1) (by omega)
       refine za<|yb (fun j => Nat.beq j 7) (by kernel_rfl) rfl (y4 (.rest _))<|ze (i := 0) rfl (by kernel_rfl) (zc (v := .fro _ _) rfl)<|ze (i := 1) rfl (by kernel_rfl) (y7 (j := 0) underlying47 sizeOf75 rfl rfl rfl (ra_at (by omega)))<|ze (i := 2) rfl (by kernel_rfl) (zo isAgg75 sizeOf75 rfl rfl)<|ze (i := 3) rfl (by kernel_rfl) (zc (v := .fro _ _) rfl)<|ze (i := 4) rfl (by kernel_rfl) (y7 (j := 1) underlying47 sizeOf75 rfl rfl rfl (ra_at (by omega)))<|ze (i := 5) rfl (by kernel_rfl) (zo isAgg75 sizeOf75 rfl rfl)<|zp (i := 6) rfl (by kernel_rfl)<|zh (rDiv ha na nb) rfl<|z6<|yy<|q5 (i := 7) rfl (by kernel_rfl) (by kernel_rfl)<|zi sizeOf75 rfl rfl rfl rfl rfl rfl .head rfl<|z6<|q0 (by kernel_rfl)<|zj<|yl rfl ⟨_, .head⟩ isAgg75 sizeOf75 rfl ?_
       rw [if_pos c5]; try rfl
      ·rw [if_neg c5]
       refine za<|z7 rfl<|z2 (y6 rfl rfl)<|z2 (zd (v := .bool _) rfl)<|z6<|zt rfl (fun c6 => ?_) (fun c6 => ?_)
       ·have hl1 : rs.length = 2 := by rw [hl, c6]; rfl
        obtain ⟨hb, nb⟩ := hok.at (i := 1) (by omega)
        refine za<|yb (fun j => Nat.beq j 7) (by kernel_rfl) rfl (y4 (.rest _))<|ze (i := 0) rfl (by kernel_rfl) (zc (v := .fro _ _) rfl)<|ze (i := 1) rfl (by kernel_rfl) (y7 (j := 0) underlying47 sizeOf75 rfl rfl rfl (ra_at (by omega)))<|ze (i := 2) rfl (by kernel_rfl) (zo isAgg75 sizeOf75 rfl rfl)<|ze (i := 3) rfl (by kernel_rfl) (zc (v := .fro _ _) rfl)<|ze (i := 4) rfl (by kernel_rfl) (y7 (j := 1) underlying47 sizeOf75 rfl rfl rfl (ra_at (by omega)))<|ze (i := 5) rfl (by kernel_rfl) (zo isAgg75 sizeOf75 rfl rfl)<|zp (i := 6) rfl (by kernel_rfl)<|zh (rRem hb) rfl<|z6<|yy<|q5 (i := 7) rfl (by kernel_rfl) (by kernel_rfl)<|zi sizeOf75 rfl rfl rfl rfl rfl rfl .head rfl<|z6<|q0 (by kernel_rfl)<|zj<|yl rfl ⟨_, .head⟩ isAgg75 sizeOf75 rfl ?_
        rw [if_pos c6]; try rfl
       ·rw [if_neg c6]
        refine za<|z7 rfl<|z2 (y6 rfl rfl)<|z2 (zd (v := .bool _) rfl)<|z6<|zt rfl (fun c7 => ?_) (fun c7 => ?_)
        ·have hl1 : rs.length = 2 := by rw [hl, c7]; rfl
         rw [if_pos c7, eqQ]
         refine za<|yq (γ := Bool) [1, 6] (fun u => [(9, .bool u)]) (fun u => [(i6, .cells 75 [.int .i64 0, .int .i64 0])]) (fun u => u = (decide ((ra rs 0).1 = (ra rs 0).2) && decide (ra rs 0 = ra rs 1))) ?_ (fun _ _ h => h) ?_
         ·refine yb (fun j => false) (by kernel_rfl) rfl (y4 (.rest _))<|ze (i := 0) rfl (by kernel_rfl) (zc (v := .fro _ _) rfl)<|ze (i := 1) rfl (by kernel_rfl) (y7 (j := 0) underlying47 sizeOf75 rfl rfl rfl (ra_at (by omega)))<|ze (i := 2) rfl (by kernel_rfl) (zg underlying75 rfl sizeOf2 (by decide) rfl rfl)<|ze (i := 3) rfl (by kernel_rfl) (zf (c := .int _ _) isAgg2 rfl)<|ze (i := 4) rfl (by kernel_rfl) (zc (v := .fro _ _) rfl)<|ze (i := 5) rfl (by kernel_rfl) (y7 (j := 0) underlying47 sizeOf75 rfl rfl rfl (ra_at (by omega)))<|ze (i := 6) rfl (by kernel_rfl) (zg underlying75 rfl sizeOf2 (by decide) rfl rfl)<|ze (i := 7) rfl (by kernel_rfl) (zf (c := .int _ _) isAgg2 rfl)<|ze (i := 8) rfl (by kernel_rfl) (y6 rfl rfl)<|ze (i := 9) rfl (by kernel_rfl) (zc (v := .bool _) rfl)<|qp (s := 82) rfl (fun c => ?_) (fun c => ?_)
          ·refine yo (i := 10) rfl rfl rfl c (by kernel_rfl) (zc (v := .fro _ _) rfl)<|yo (i := 11) rfl rfl rfl c (by kernel_rfl) (y7 (j := 0) underlying47 sizeOf75 rfl rfl rfl (ra_at (by omega)))<|yo (i := 12) rfl rfl rfl c (by kernel_rfl) (zo isAgg75 sizeOf75 rfl rfl)<|yo (i := 13) rfl rfl rfl c (by kernel_rfl) (zc (v := .fro _ _) rfl)<|yo (i := 14) rfl rfl rfl c (by kernel_rfl) (y7 (j := 1) underlying47 sizeOf75 rfl rfl rfl (ra_at (by omega)))<|yo (i := 15) rfl rfl rfl c (by kernel_rfl) (zo isAgg75 sizeOf75 rfl rfl)<|yo (i := 16) rfl rfl rfl c (by kernel_rfl) (Gv.eqlP (xs := [.int _ _, .int _ _]) (ys := [.int _ _, .int _ _]) (by kernel_rfl) rfl rfl (fun w => eq_rrange _ _ _ _ w))<|ze (i := 17) rfl (by kernel_rfl) (zu (v := .bool _) rfl c rfl)<|ze (i := 18) rfl (by kernel_rfl) (zd (v := .bool _) rfl)<|ya (by kernel_rfl) ?_
           exact ⟨_, ⟨rfl, rfl, trivial⟩, ⟨rfl, trivial⟩, ⟨_, (.refl _), rfl⟩, by rw [show decide ((ra rs 0).1 = (ra rs 0).2) = true from c, ← rng_eq]; rfl⟩
          ·refine ym (i := 10) rfl rfl rfl c (by kernel_rfl)<|ym (i := 11) rfl rfl rfl c (by kernel_rfl)<|ym (i := 12) rfl rfl rfl c (by kernel_rfl)<|ym (i := 13) rfl rfl rfl c (by kernel_rfl)<|ym (i := 14) rfl rfl rfl c (by kernel_rfl)<|ym (i := 15) rfl rfl rfl c (by kernel_rfl)<|ym (i := 16) rfl rfl rfl c (by kernel_rfl)<|ze (i := 17) rfl (by kernel_rfl) (zw (v := .bool _) rfl c rfl)<|ze (i := 18) rfl (by kernel_rfl) (zd (v := .bool _) rfl)<|ya (by kernel_rfl) ?_
           exact ⟨_, ⟨rfl, rfl, trivial⟩, ⟨rfl, trivial⟩, ⟨_, (.refl _), rfl⟩, by rw [show decide ((ra rs 0).1 = (ra rs 0).2) = false from c]; rfl⟩
         ·rintro u hu
          rw [← hu]
          refine za<|yb (fun j => Nat.beq j 12) (by kernel_rfl) rfl (y4 (.rest _))<|ze (i := 0) rfl (by kernel_rfl) (zc (v := .bool _) rfl)<|ze (i := 1) rfl (by kernel_rfl) (yt rfl)<|ze (i := 2) rfl (by kernel_rfl) (zc (v := .fro _ _) rfl)<|ze (i := 3) rfl (by kernel_rfl) (y7 (j := 0) underlying47 sizeOf75 rfl rfl rfl (ra_at (by omega)))<|ze (i := 4) rfl (by kernel_rfl) (zo isAgg75 sizeOf75 rfl rfl)<|ze (i := 5) rfl (by kernel_rfl) (zc (v := .fro _ _) rfl)<|ze (i := 6) rfl (by kernel_rfl) (y7 (j := 1) underlying47 sizeOf75 rfl rfl rfl (ra_at (by omega)))<|ze (i := 7) rfl (by kernel_rfl) (zo isAgg75 sizeOf75 rfl rfl)<|zp (i := 8) rfl (by kernel_rfl)<|zh (rMeet_s _ _) rfl<|z6<|zp (i := 9) rfl (by kernel_rfl)<|zh (rNone) rfl<|z6<|ze (i := 10) rfl (by kernel_rfl) (Gv.neqP (xs := [.int _ _, .int _ _]) (ys := [.int _ _, .int _ _]) (by kernel_rfl) rfl rfl (fun w => eq_rrange _ _ _ _ w))<|zp (i := 11) rfl (by kernel_rfl)<|zh (rTruth _ _) rfl<|z6<|yy<|q5 (i := 12) rfl (by kernel_rfl) (by kernel_rfl)<|zi sizeOf75 rfl rfl rfl rfl rfl rfl .head rfl<|z6<|q0 (by kernel_rfl)<|zj<|yl rfl ⟨_, .head⟩ isAgg75 sizeOf75 rfl ?_
          rw [← rMeet_no]; try rfl
        ·rw [if_neg c7]
         refine za<|z7 rfl<|z2 (y6 rfl rfl)<|z2 (zd (v := .bool _) rfl)<|z6<|zt rfl (fun c8 => ?_) (fun c8 => ?_)
         ·have hl1 : rs.length = 2 := by rw [hl, c8]; rfl
          refine za<|yb (fun j => Nat.beq j 19) (by kernel_rfl) rfl (y4 (.rest _))<|ze (i := 0) rfl (by kernel_rfl) (zc (v := .fro _ _) rfl)<|ze (i := 1) rfl (by kernel_rfl) (y7 (j := 0) underlying47 sizeOf75 rfl rfl rfl (ra_at (by omega)))<|ze (i := 2) rfl (by kernel_rfl) (zg underlying75 rfl sizeOf2 (by decide) rfl rfl)<|ze (i := 3) rfl (by kernel_rfl) (zf (c := .int _ _) isAgg2 rfl)<|ze (i := 4) rfl (by kernel_rfl) (zc (v := .fro _ _) rfl)<|ze (i := 5) rfl (by kernel_rfl) (y7 (j := 1) underlying47 sizeOf75 rfl rfl rfl (ra_at (by omega)))<|ze (i := 6) rfl (by kernel_rfl) (zg underlying75 rfl sizeOf2 (by decide) rfl rfl)<|ze (i := 7) rfl (by kernel_rfl) (zf (c := .int _ _) isAgg2 rfl)<|ze (i := 8) rfl (by kernel_rfl) (qf rfl rfl)<|ze (i := 9) rfl (by kernel_rfl) (zc (v := .fro _ _) rfl)<|ze (i := 10) rfl (by kernel_rfl) (y7 (j := 0) underlying47 sizeOf75 rfl rfl rfl (ra_at (by omega)))<|ze (i := 11) rfl (by kernel_rfl) (zg underlying75 rfl sizeOf2 (by decide) rfl rfl)<|ze (i := 12) rfl (by kernel_rfl) (zf (c := .int _ _) isAgg2 rfl)<|ze (i := 13) rfl (by kernel_rfl) (zc (v := .fro _ _) rfl)<|ze (i := 14) rfl (by kernel_rfl) (y7 (j := 1) underlying47 sizeOf75 rfl rfl rfl (ra_at (by omega)))<|ze (i := 15) rfl (by kernel_rfl) (zg underlying75 rfl sizeOf2 (by decide) rfl rfl)<|ze (i := 16) rfl (by kernel_rfl) (zf (c := .int _ _) isAgg2 rfl)<|ze (i := 17) rfl (by kernel_rfl) (yj rfl rfl)<|zp (i := 18) rfl (by kernel_rfl)<|zh (rTruth _ _) rfl<|z6<|yy<|q5 (i := 19) rfl (by kernel_rfl) (by kernel_rfl)<|zi sizeOf75 rfl rfl rfl rfl rfl rfl .head rfl<|z6<|q0 (by kernel_rfl)<|zj<|yl rfl ⟨_, .head⟩ isAgg75 sizeOf75 rfl ?_
          rw [if_pos c8]; try rfl
         ·rw [if_neg c8]
          refine za<|z7 rfl<|z2 (y6 rfl rfl)<|z2 (zd (v := .bool _) rfl)<|z6<|zt rfl (fun c9 => ?_) (fun c9 => ?_)
          ·have hl1 : rs.length = 2 := by rw [hl, c9]; rfl
           refine za<|yb (fun j => Nat.beq j 19) (by kernel_rfl) rfl (y4 (.rest _))<|ze (i := 0) rfl (by kernel_rfl) (zc (v := .fro _ _) rfl)<|ze (i := 1) rfl (by kernel_rfl) (y7 (j := 0) underlying47 sizeOf75 rfl rfl rfl (ra_at (by omega)))<|ze (i := 2) rfl (by kernel_rfl) (zg underlying75 rfl sizeOf2 (by decide) rfl rfl)<|ze (i := 3) rfl (by kernel_rfl) (zf (c := .int _ _) isAgg2 rfl)<|ze (i := 4) rfl (by kernel_rfl) (zc (v := .fro _ _) rfl)<|ze (i := 5) rfl (by kernel_rfl) (y7 (j := 1) underlying47 sizeOf75 rfl rfl rfl (ra_at (by omega)))<|ze (i := 6) rfl (by kernel_rfl) (zg underlying75 rfl sizeOf2 (by decide) rfl rfl)<|ze (i := 7) rfl (by kernel_rfl) (zf (c := .int _ _) isAgg2 rfl)<|ze (i := 8) rfl (by kernel_rfl) (q7 rfl rfl)<|ze (i := 9) rfl (by kernel_rfl) (zc (v := .fro _ _) rfl)<|ze (i := 10) rfl (by kernel_rfl) (y7 (j := 0) underlying47 sizeOf75 rfl rfl rfl (ra_at (by omega)))<|ze (i := 11) rfl (by kernel_rfl) (zg underlying75 rfl sizeOf2 (by decide) rfl rfl)<|ze (i := 12) rfl (by kernel_rfl) (zf (c := .int _ _) isAgg2 rfl)<|ze (i := 13) rfl (by kernel_rfl) (zc (v := .fro _ _) rfl)<|ze (i := 14) rfl (by kernel_rfl) (y7 (j := 1) underlying47 sizeOf75 rfl rfl rfl (ra_at (by omega)))<|ze (i := 15) rfl (by kernel_rfl) (zg underlying75 rfl sizeOf2 (by decide) rfl rfl)<|ze (i := 16) rfl (by kernel_rfl) (zf (c := .int _ _) isAgg2 rfl)<|ze (i := 17) rfl (by kernel_rfl) (Gv.leq rfl rfl)<|zp (i := 18) rfl (by kernel_rfl)<|zh (rTruth _ _) rfl<|z6<|yy<|q5 (i := 19) rfl (by kernel_rfl) (by kernel_rfl)<|zi sizeOf75 rfl rfl rfl rfl rfl rfl .head rfl<|z6<|q0 (by kernel_rfl)<|zj<|yl rfl ⟨_, .head⟩ isAgg75 sizeOf75 rfl ?_
           rw [if_pos c9]; try rfl
          ·rw [if_neg c9]
           refine za<|z7 rfl<|z2 (y6 rfl rfl)<|z2 (zd (v := .bool _) rfl)<|z6<|zt rfl (fun c10 => ?_) (fun c10 => ?_)
           ·have hl1 : rs.length = 1 := by rw [hl, c10]; rfl
            refine za<|yb (fun j => Nat.beq j 11) (by kernel_rfl) rfl (y4 (.rest _))<|ze (i := 0) rfl (by kernel_rfl) (zc (v := .fro _ _) rfl)<|ze (i := 1) rfl (by kernel_rfl) (y7 (j := 0) underlying47 sizeOf75 rfl rfl rfl (ra_at (by omega)))<|ze (i := 2) rfl (by kernel_rfl) (zg underlying75 rfl sizeOf2 (by decide) rfl rfl)<|ze (i := 3) rfl (by kernel_rfl) (zf (c := .int _ _) isAgg2 rfl)<|ze (i := 4) rfl (by kernel_rfl) (y6 rfl rfl)<|ze (i := 5) rfl (by kernel_rfl) (zc (v := .fro _ _) rfl)<|ze (i := 6) rfl (by kernel_rfl) (y7 (j := 0) underlying47 sizeOf75 rfl rfl rfl (ra_at (by omega)))<|ze (i := 7) rfl (by kernel_rfl) (zg underlying75 rfl sizeOf2 (by decide) rfl rfl)<|ze (i := 8) rfl (by kernel_rfl) (zf (c := .int _ _) isAgg2 rfl)<|ze (i := 9) rfl (by kernel_rfl) (y6 rfl rfl)<|zp (i := 10) rfl (by kernel_rfl)<|zh (rTruth _ _) rfl<|z6<|yy<|q5 (i := 11) rfl (by kernel_rfl) (by kernel_rfl)<|zi sizeOf75 rfl rfl rfl rfl rfl rfl .head rfl<|z6<|q0 (by kernel_rfl)<|zj<|yl rfl ⟨_, .head⟩ isAgg75 sizeOf75 rfl ?_
            rw [if_pos c10]; try rfl
           ·rw [if_neg c10]
            refine za<|z7 rfl<|z2 (y6 rfl rfl)<|z2 (zd (v := .bool _) rfl)<|z6<|zt rfl (fun c11 => ?_) (fun c11 => ?_)
            ·have hl1 : rs.length = 2 := by rw [hl, c11]; rfl
             rw [if_pos c11, andQ]
             refine za<|yb (fun j => Nat.beq j 25) (by kernel_rfl) rfl (y4 (.rest _))<|ze (i := 0) rfl (by kernel_rfl) (zc (v := .fro _ _) rfl)<|ze (i := 1) rfl (by kernel_rfl) (y7 (j := 0) underlying47 sizeOf75 rfl rfl rfl (ra_at (by omega)))<|ze (i := 2) rfl (by kernel_rfl) (zg underlying75 rfl sizeOf2 (by decide) rfl rfl)<|ze (i := 3) rfl (by kernel_rfl) (zf (c := .int _ _) isAgg2 rfl)<|ze (i := 4) rfl (by kernel_rfl) (y6 rfl rfl)<|ze (i := 5) rfl (by kernel_rfl) (zc (v := .bool _) rfl)<|qp (s := 165) rfl (fun c12 => ?_) (fun c12 => ?_)
             ·refine ym (i := 6) rfl rfl rfl c12 (by kernel_rfl)<|ym (i := 7) rfl rfl rfl c12 (by kernel_rfl)<|ym (i := 8) rfl rfl rfl c12 (by kernel_rfl)<|ym (i := 9) rfl rfl rfl c12 (by kernel_rfl)<|ym (i := 10) rfl rfl rfl c12 (by kernel_rfl)<|ze (i := 11) rfl (by kernel_rfl) (zu (v := .bool _) rfl c12 rfl)<|ze (i := 12) rfl (by kernel_rfl) (zc (v := .fro _ _) rfl)<|ze (i := 13) rfl (by kernel_rfl) (y7 (j := 0) underlying47 sizeOf75 rfl rfl rfl (ra_at (by omega)))<|ze (i := 14) rfl (by kernel_rfl) (zg underlying75 rfl sizeOf2 (by decide) rfl rfl)<|ze (i := 15) rfl (by kernel_rfl) (zf (c := .int _ _) isAgg2 rfl)<|ze (i := 16) rfl (by kernel_rfl) (y6 rfl rfl)<|ze (i := 17) rfl (by kernel_rfl) (zc (v := .bool _) rfl)<|qp (s := 177) rfl (fun c13 => ?_) (fun c13 => ?_)
              ·refine yo (i := 18) rfl rfl rfl c13 (by kernel_rfl) (zc (v := .fro _ _) rfl)<|yo (i := 19) rfl rfl rfl c13 (by kernel_rfl) (y7 (j := 1) underlying47 sizeOf75 rfl rfl rfl (ra_at (by omega)))<|yo (i := 20) rfl rfl rfl c13 (by kernel_rfl) (zg underlying75 rfl sizeOf2 (by decide) rfl rfl)<|yo (i := 21) rfl rfl rfl c13 (by kernel_rfl) (zf (c := .int _ _) isAgg2 rfl)<|yo (i := 22) rfl rfl rfl c13 (by kernel_rfl) (y6 rfl rfl)<|ze (i := 23) rfl (by kernel_rfl) (zu (v := .bool _) rfl c13 rfl)<|zp (i := 24) rfl (by kernel_rfl)<|zh (rTruth _ _) rfl<|z6<|yy<|q5 (i := 25) rfl (by kernel_rfl) (by kernel_rfl)<|zi sizeOf75 rfl rfl rfl rfl rfl rfl .head rfl<|z6<|q0 (by kernel_rfl)<|zj<|yl rfl ⟨_, .head⟩ isAgg75 sizeOf75 rfl ?_
               rw [show decide ((ra rs 0).1 = 0) = true from c12, show decide ((ra rs 0).2 = 1) = true from c13]; try rfl
              ·refine ym (i := 18) rfl rfl rfl c13 (by kernel_rfl)<|ym (i := 19) rfl rfl rfl c13 (by kernel_rfl)<|ym (i := 20) rfl rfl rfl c13 (by kernel_rfl)<|ym (i := 21) rfl rfl rfl c13 (by kernel_rfl)<|ym (i := 22) rfl rfl rfl c13 (by kernel_rfl)<|ze (i := 23) rfl (by kernel_rfl) (zw (v := .bool _) rfl c13 rfl)<|zp (i := 24) rfl (by kernel_rfl)<|zh (rTruth _ _) rfl<|z6<|yy<|q5 (i := 25) rfl (by kernel_rfl) (by kernel_rfl)<|zi sizeOf75 rfl rfl rfl rfl rfl rfl .head rfl<|z6<|q0 (by kernel_rfl)<|zj<|yl rfl ⟨_, .head⟩ isAgg75 sizeOf75 rfl ?_
               rw [show decide ((ra rs 0).1 = 0) = true from c12, show decide ((ra rs 0).2 = 1) = false from c13]; try rfl
             ·refine yo (i := 6) rfl rfl rfl c12 (by kernel_rfl) (zc (v := .fro _ _) rfl)<|yo (i := 7) rfl rfl rfl c12 (by kernel_rfl) (y7 (j := 1) underlying47 sizeOf75 rfl rfl rfl (ra_at (by omega)))<|yo (i := 8) rfl rfl rfl c12 (by kernel_rfl) (zg underlying75 rfl sizeOf2 (by decide) rfl rfl)<|yo (i := 9) rfl rfl rfl c12 (by kernel_rfl) (zf (c := .int _ _) isAgg2 rfl)<|yo (i := 10) rfl rfl rfl c12 (by kernel_rfl) (y6 rfl rfl)<|ze (i := 11) rfl (by kernel_rfl) (zw (v := .bool _) rfl c12 rfl)<|ze (i := 12) rfl (by kernel_rfl) (zc (v := .fro _ _) rfl)<|ze (i := 13) rfl (by kernel_rfl) (y7 (j := 0) underlying47 sizeOf75 rfl rfl rfl (ra_at (by omega)))<|ze (i := 14) rfl (by kernel_rfl) (zg underlying75 rfl sizeOf2 (by decide) rfl rfl)<|ze (i := 15) rfl (by kernel_rfl) (zf (c := .int _ _) isAgg2 rfl)<|ze (i := 16) rfl (by kernel_rfl) (y6 rfl rfl)<|ze (i := 17) rfl (by kernel_rfl) (zc (v := .bool _) rfl)<|qp (s := 177) rfl (fun c13 => ?_) (fun c13 => ?_)
              ·refine yo (i := 18) rfl rfl rfl c13 (by kernel_rfl) (zc (v := .fro _ _) rfl)<|yo (i := 19) rfl rfl rfl c13 (by kernel_rfl) (y7 (j := 1) underlying47 sizeOf75 rfl rfl rfl (ra_at (by omega)))<|yo (i := 20) rfl rfl rfl c13 (by kernel_rfl) (zg underlying75 rfl sizeOf2 (by decide) rfl rfl)<|yo (i := 21) rfl rfl rfl c13 (by kernel_rfl) (zf (c := .int _ _) isAgg2 rfl)<|yo (i := 22) rfl rfl rfl c13 (by kernel_rfl) (y6 rfl rfl)<|ze (i := 23) rfl (by kernel_rfl) (zu (v := .bool _) rfl c13 rfl)<|zp (i := 24) rfl (by kernel_rfl)<|zh (rTruth _ _) rfl<|z6<|yy<|q5 (i := 25) rfl (by kernel_rfl) (by kernel_rfl)<|zi sizeOf75 rfl rfl rfl rfl rfl rfl .head rfl<|z6<|q0 (by kernel_rfl)<|zj<|yl rfl ⟨_, .head⟩ isAgg75 sizeOf75 rfl ?_
               rw [show decide ((ra rs 0).1 = 0) = false from c12, show decide ((ra rs 0).2 = 1) = true from c13]; try rfl
              ·refine ym (i := 18) rfl rfl rfl c13 (by kernel_rfl)<|ym (i := 19) rfl rfl rfl c13 (by kernel_rfl)<|ym (i := 20) rfl rfl rfl c13 (by kernel_rfl)<|ym (i := 21) rfl rfl rfl c13 (by kernel_rfl)<|ym (i := 22) rfl rfl rfl c13 (by kernel_rfl)<|ze (i := 23) rfl (by kernel_rfl) (zw (v := .bool _) rfl c13 rfl)<|zp (i := 24) rfl (by kernel_rfl)<|zh (rTruth _ _) rfl<|z6<|yy<|q5 (i := 25) rfl (by kernel_rfl) (by kernel_rfl)<|zi sizeOf75 rfl rfl rfl rfl rfl rfl .head rfl<|z6<|q0 (by kernel_rfl)<|zj<|yl rfl ⟨_, .head⟩ isAgg75 sizeOf75 rfl ?_
               rw [show decide ((ra rs 0).1 = 0) = false from c12, show decide ((ra rs 0).2 = 1) = false from c13]; try rfl
            ·rw [if_neg c11]
             refine za<|z7 rfl<|z2 (y6 rfl rfl)<|z2 (zd (v := .bool _) rfl)<|z6<|zt rfl (fun c15 => ?_) (fun c15 => ?_)
             ·have hl1 : rs.length = 1 := by rw [hl, c15]; rfl
              refine za<|yb (fun j => Nat.beq j 5) (by kernel_rfl) rfl (y4 (.rest _))<|ze (i := 0) rfl (by kernel_rfl) (zc (v := .fro _ _) rfl)<|ze (i := 1) rfl (by kernel_rfl) (y7 (j := 0) underlying47 sizeOf75 rfl rfl rfl (ra_at (by omega)))<|ze (i := 2) rfl (by kernel_rfl) (zo isAgg75 sizeOf75 rfl rfl)<|zp (i := 3) rfl (by kernel_rfl)<|zh (rType_s (t := 2) (by decide)) rfl<|z6<|zp (i := 4) rfl (by kernel_rfl)<|zh (rMeet_s _ _) rfl<|z6<|yy<|q5 (i := 5) rfl (by kernel_rfl) (by kernel_rfl)<|zi sizeOf75 rfl rfl rfl rfl rfl rfl .head rfl<|z6<|q0 (by kernel_rfl)<|zj<|yl rfl ⟨_, .head⟩ isAgg75 sizeOf75 rfl ?_
              rw [if_pos c15]; try rfl
             ·rw [if_neg c15]
              refine za<|z7 rfl<|z2 (y6 rfl rfl)<|z2 (zd (v := .bool _) rfl)<|z6<|zt rfl (fun c16 => ?_) (fun c16 => ?_)
              ·refine za<|z7 rfl<|z2 (y9 (cps := []) (rs := [.int .i64 0, .int .i64 0]) pl75 rfl rfl rfl)<|zi sizeOf75 rfl rfl rfl rfl rfl rfl .head rfl<|z6<|zj<|yl rfl ⟨_, .head⟩ isAgg75 sizeOf75 rfl ?_
               rw [if_pos c16]; try rfl
              ·rw [if_neg c16]
               refine za<|z7 rfl<|z2 (y6 rfl rfl)<|z2 (zd (v := .bool _) rfl)<|z6<|zt rfl (fun c25 => ?_) (fun c25 => ?_)
               ·have hl1 : rs.length = 2 := by rw [hl, c25]; rfl
                obtain ⟨hb, nb⟩ := hok.at (i := 1) (by omega)
                refine za<|yb (fun j => Nat.beq j 9) (by kernel_rfl) rfl (y4 (.rest _))<|ze (i := 0) rfl (by kernel_rfl) (zg underlying33 rfl sizeOf2 (by decide) rfl rfl)<|ze (i := 1) rfl (by kernel_rfl) (zf (c := .int _ _) isAgg2 rfl)<|ze (i := 2) rfl (by kernel_rfl) (zc (v := .fro _ _) rfl)<|ze (i := 3) rfl (by kernel_rfl) (y7 (j := 0) underlying47 sizeOf75 rfl rfl rfl (ra_at (by omega)))<|ze (i := 4) rfl (by kernel_rfl) (zo isAgg75 sizeOf75 rfl rfl)<|ze (i := 5) rfl (by kernel_rfl) (zc (v := .fro _ _) rfl)<|ze (i := 6) rfl (by kernel_rfl) (y7 (j := 1) underlying47 sizeOf75 rfl rfl rfl (ra_at (by omega)))<|ze (i := 7) rfl (by kernel_rfl) (zo isAgg75 sizeOf75 rfl rfl)<|zp (i := 8) rfl (by kernel_rfl)<|zh (rCut x.num hb) rfl<|z6<|yy<|q5 (i := 9) rfl (by kernel_rfl) (by kernel_rfl)<|zi sizeOf75 rfl rfl rfl rfl rfl rfl .head rfl<|z6<|q0 (by kernel_rfl)<|zj<|yl rfl ⟨_, .head⟩ isAgg75 sizeOf75 rfl ?_
                rw [if_pos c25]; try rfl
               ·rw [if_neg c25]
                refine za<|z7 rfl<|z2 (y6 rfl rfl)<|z2 (zd (v := .bool _) rfl)<|z6<|zt rfl (fun c26 => ?_) (fun c26 => ?_)
                ·have hl1 : rs.length = 2 := by rw [hl, c26]; rfl
                 obtain ⟨hb, nb⟩ := hok.at (i := 1) (by omega)
                 refine za<|yb (fun j => Nat.beq j 9) (by kernel_rfl) rfl (y4 (.rest _))<|ze (i := 0) rfl (by kernel_rfl) (zc (v := .fro _ _) rfl)<|ze (i := 1) rfl (by kernel_rfl) (y7 (j := 0) underlying47 sizeOf75 rfl rfl rfl (ra_at (by omega)))<|ze (i := 2) rfl (by kernel_rfl) (zo isAgg75 sizeOf75 rfl rfl)<|ze (i := 3) rfl (by kernel_rfl) (y9 (cps := [(0, [_]), (1, [_])]) (rs := [_, _]) pl75 rfl rfl rfl)<|ze (i := 5) rfl (by kernel_rfl) (zc (v := .fro _ _) rfl)<|ze (i := 6) rfl (by kernel_rfl) (y7 (j := 1) underlying47 sizeOf75 rfl rfl rfl (ra_at (by omega)))<|ze (i := 7) rfl (by kernel_rfl) (zo isAgg75 sizeOf75 rfl rfl)<|zp (i := 4) rfl (by kernel_rfl)<|zh (rMeet_s (ra rs 0) (0, M64)) rfl<|z6<|zp (i := 8) rfl (by kernel_rfl)<|zh (rCut 0 hb) rfl<|z6<|yy<|q5 (i := 9) rfl (by kernel_rfl) (by kernel_rfl)<|zi sizeOf75 rfl rfl rfl rfl rfl rfl .head rfl<|z6<|q0 (by kernel_rfl)<|zj<|yl rfl ⟨_, .head⟩ isAgg75 sizeOf75 rfl ?_
                 rw [if_pos c26]; try rfl
                ·refine zk<|za<|z7 rfl<|z2 (zo isAgg75 sizeOf75 rfl rfl)<|zi sizeOf75 rfl rfl rfl rfl rfl rfl .head rfl<|z6<|zj<|yl rfl ⟨_, .head⟩ isAgg75 sizeOf75 rfl ?_
                 rw [if_neg c26]; try rfl
end Go.Proofs.YtjnpcfpecilejaaGreatDoor
namespace Go.Proofs.YtjnpcfpecilejaaGreatDoor
open Go.Proofs.Tryz
theorem flat_len1 {α β : Type} {g : α → List β} : ∀ {l : List α} {i : Nat} {x : α}, l[i]? = some x → (g x).length ≤ (l.flatMap g).length
 | y :: l, 0, x, h => by simp at h; subst h; rw [List.flatMap_cons, List.length_append]; omega
 | y :: l, i + 1, x, h => by
  have := flat_len1 (g := g) (l := l) (i := i) (x := x) (by simpa using h)
  rw [List.flatMap_cons, List.length_append]; omega
theorem mkBlk_len {f : PFunc} {v : Int} (hl : (makings f v).length ≤ 1) {i : Nat} {b : PBlock} (h : f.blocks[i]? = some b) : (mkBlk v i b).length ≤ 1 := by
 have h2 : f.blocks.zipIdx[i]? = some (b, i) := by rw [List.getElem?_zipIdx, h]; simp
 exact Nat.le_trans (flat_len1 (g := fun b : PBlock × Nat => mkBlk v (b.2 : Int) b.1) h2) hl
theorem phi_one {f : PFunc} {v : Int} (hl : (makings f v).length ≤ 1) {i : Nat} {b : PBlock} (h : f.blocks[i]? = some b) {p : PPhi} (hp : p ∈ b.phis) (hd : p.dst = v) : b.phis.filter (fun q => decide (q.dst = v)) = [p] := by
 have h1 := mkBlk_len hl h
 unfold mkBlk at h1
 rw [List.length_append, List.length_map] at h1
 have h2 : p ∈ b.phis.filter (fun q => decide (q.dst = v)) := List.mem_filter.2 ⟨hp, by simpa using hd⟩
 cases hf : b.phis.filter (fun q => decide (q.dst = v)) with
 | nil => rw [hf] at h2; cases h2
 | cons x l =>
  rw [hf] at h1 h2
  have : l = [] := List.eq_nil_of_length_eq_zero (by simp only [List.length_cons] at h1; omega)
  subst this
  simp at h2; rw [h2]
theorem phi_find {f : PFunc} {v : Int} (hl : (makings f v).length ≤ 1) {i : Nat} {b : PBlock} (h : f.blocks[i]? = some b) {p : PPhi} (hp : p ∈ b.phis) (hd : p.dst = v) : (b.phis.find? fun q => decide (q.dst = v)) = some p := by
 rw [← List.head?_filter, phi_one hl h hp hd]; rfl
def phiAcc (f : PFunc) (l : List Rng) (acc : Rng) (xs : List Int) : Rng := xs.foldl (fun acc v => rJoin acc (ofR f l v)) acc
theorem phiAcc_snoc (f : PFunc) (l : List Rng) (acc : Rng) (xs : List Int) (v : Int) : phiAcc f l acc (xs ++ [v]) = rJoin (phiAcc f l acc xs) (ofR f l v) := by unfold phiAcc; rw [List.foldl_append]; rfl
def phisAcc (f : PFunc) (l : List Rng) (v : Int) (ps : List PPhi) : Rng := (ps.filter fun q => decide (q.dst = v)).foldl (fun acc p => phiAcc f l acc p.args) noR
theorem phisAcc_snoc (f : PFunc) (l : List Rng) (v : Int) (ps : List PPhi) (p : PPhi) : phisAcc f l v (ps ++ [p]) = if p.dst = v then phiAcc f l (phisAcc f l v ps) p.args else phisAcc f l v ps := by
 unfold phisAcc
 rw [List.filter_append, List.foldl_append]
 by_cases h : p.dst = v
 ·rw [if_pos h]; simp [h]
 ·rw [if_neg h]; simp [h]
theorem rule_phi {f : PFunc} {chk : Int → Bool} {l : List Rng} {v : Int} (hl : (makings f v).length ≤ 1) {i : Nat} {b : PBlock} (h : f.blocks[i]? = some b) {p : PPhi} (hp : p ∈ b.phis) (hd : p.dst = v) (hm : makerT f v = ((i : Int), -1)) : ruleR f chk l v = phiAcc f l noR p.args := by
 unfold ruleR
 rw [hm]
 dsimp only
 rw [show (i : Int).toNat = i from rfl, h]
 dsimp only
 rw [if_neg (by decide), phi_find hl h hp hd]
 rfl
theorem phis_one {f : PFunc} {l : List Rng} {v : Int} (hl : (makings f v).length ≤ 1) {i : Nat} {b : PBlock} (h : f.blocks[i]? = some b) {p : PPhi} (hp : p ∈ b.phis) (hd : p.dst = v) : phisAcc f l v b.phis = phiAcc f l noR p.args := by
 unfold phisAcc; rw [phi_one hl h hp hd]; rfl
theorem rule_inst {f : PFunc} {chk : Int → Bool} {l : List Rng} {v : Int} {i k : Nat} {b : PBlock} (h : f.blocks[i]? = some b) {x : PInst} (hx : b.insts[k]? = some x) (hm : makerT f v = ((i : Int), (k : Int))) : ruleR f chk l v = instR f chk l x := by
 unfold ruleR
 rw [hm]
 dsimp only
 rw [show (i : Int).toNat = i from rfl, h]
 dsimp only
 rw [if_pos (by omega), show (k : Int).toNat = k from rfl, hx]
def firstR (f : PFunc) (v : Int) : Rng := if v < f.params.length then rType (tyV f v) else (0, 0)
def madePh (b : PBlock) : List (Int × Bool) := b.phis.map fun p => (p.dst, true)
def madeIn (xs : List PInst) : List (Int × Bool) := (xs.filter fun x => decide (0 ≤ x.dst)).map fun x => (x.dst, false)
def madeTo (f : PFunc) (k : Nat) : List (Int × Bool) := (f.blocks.take k).flatMap fun b => madePh b ++ madeIn b.insts
theorem madeTo_succ {f : PFunc} {k : Nat} (h : k < f.blocks.length) : madeTo f (k + 1) = madeTo f k ++ (madePh f.blocks[k] ++ madeIn f.blocks[k].insts) := by
 unfold madeTo; rw [List.take_succ_eq_append_getElem h, List.flatMap_append]; simp
end Go.Proofs.YtjnpcfpecilejaaGreatDoor
