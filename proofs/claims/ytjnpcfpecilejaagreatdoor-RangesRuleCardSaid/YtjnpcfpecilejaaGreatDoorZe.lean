/- The document's ranges. Of int64s. -/
import Derived.Test.YtjnpcfpecilejaaGreatDoorZd
set_option linter.unusedVariables false
set_option linter.unusedSimpArgs false
set_option linter.unusedSectionVars false
namespace Go.Proofs.YtjnpcfpecilejaaGreatDoor
open Go.Proofs.Tryz
open Go.Proofs
theorem pl75 : Places Tryz.prog 75 #[(0, 1), (1, 1)] [.int .i64 0, .int .i64 0] := ⟨_, _, underlying75, zeroValue75, fun w => by kernel_rfl, rfl⟩
variable {E : World}
set_option maxRecDepth 20000
theorem eq_rrange (a b c d : Int) (w : World) : (Op.equalIn 10000 75 (.agg [.int .i64 a, .int .i64 b].toArray) (.agg [.int .i64 c, .int .i64 d].toArray)).run Tryz.prog w = .ok (decide (a = c ∧ b = d)) w := by
 have hS : Tryz.prog.underlying 75 = some (.struct (Tryz.prog.fieldsOf 75)) := by kernel_rfl
 have hp : Tryz.prog.stoodInHeld 75 = false := by kernel_rfl
 rw [show (10000 : Nat) = 9999 + 1 from rfl, run_equalIn_agg w 9999 _ _ _ hS hp]
 simp only [Program.fieldsOf, underlying75]
 simp [Op.eqFields, part, isAgg2, run_equalIn_int, underlying2]
 by_cases h1 : a = c <;> by_cases h2 : b = d <;> simp [h1, h2]
theorem rNone : AFun Tryz.prog E 38 [] (.agg (encZ noR)) := by
 refine zp func38 rfl (by decide) rfl<|za<|z7 rfl<|zq (cs := [.int .i64 0, .int .i64 0]) zeroValue75 rfl rfl<|fun i0 => z6<|za<|z7 rfl<|z2 (y3 (cps := [(0, [_]), (1, [_])]) (rs := [_, _]) pl75 rfl rfl rfl)<|ze sizeOf75 rfl rfl rfl rfl rfl rfl .head rfl<|z6<|zf<|yf rfl ⟨_, .head⟩ isAgg75 sizeOf75 rfl ?_
 rfl
theorem rType_s {t : Int} (ht : 0 ≤ t ∧ t ≤ 2) : AFun Tryz.prog E 61 [.int .i64 t] (.agg (encZ (rType t))) := by
 refine zp func61 rfl (by decide) rfl<|za<|z7 rfl<|zq (cs := [.int .i64 0, .int .i64 0]) zeroValue75 rfl rfl<|fun i2 => z6<|za<|za<|z7 rfl<|z2 (zMi rfl)<|z6<|zm<|za<|z7 rfl<|z2 (zy rfl rfl)<|z2 (zAb rfl)<|z6<|zn rfl (fun c1 => ?_) (fun c1 => ?_)
 ·refine za<|z7 rfl<|z2 (y3 (cps := [(1, [_])]) (rs := [.int .i64 0, _]) pl75 rfl rfl rfl)<|ze sizeOf75 rfl rfl rfl rfl rfl rfl .head rfl<|z6<|zf<|yf rfl ⟨_, .head⟩ isAgg75 sizeOf75 rfl ?_
  rw [c1]; try rfl
 ·refine za<|z7 rfl<|z2 (zy rfl rfl)<|z2 (zAb rfl)<|z6<|zn rfl (fun c2 => ?_) (fun c2 => ?_)
  ·refine za<|z7 rfl<|z2 (y3 (cps := [(1, [_])]) (rs := [.int .i64 0, _]) pl75 rfl rfl rfl)<|ze sizeOf75 rfl rfl rfl rfl rfl rfl .head rfl<|z6<|zf<|yf rfl ⟨_, .head⟩ isAgg75 sizeOf75 rfl ?_
   rw [c2]; try rfl
  ·refine zg<|za<|z7 rfl<|z2 (y3 (cps := [(0, [_]), (1, [_])]) (rs := [_, _]) pl75 rfl rfl rfl)<|ze sizeOf75 rfl rfl rfl rfl rfl rfl .head rfl<|z6<|zf<|yf rfl ⟨_, .head⟩ isAgg75 sizeOf75 rfl ?_
   rw [show t = 0 by omega]; try rfl
theorem rMeet_s (a b : Rng) : AFun Tryz.prog E 60 [.agg (encZ a), .agg (encZ b)] (.agg (encZ (rMeet a b))) := by
 refine zp func60 rfl (by decide) rfl<|za<|z7 rfl<|yo (cs := _) rfl rfl rfl rfl<|fun i2 => y7 (cs := _) rfl rfl rfl<|zq (cs := [.int .i64 0, .int .i64 0]) zeroValue75 rfl rfl<|fun i4 => z6<|za<|za<|z7 rfl<|z2 (zc underlying75 rfl sizeOf2 (by decide) rfl rfl)<|z2 (zLi isAgg2 rfl)<|z2 (zt underlying75 rfl sizeOf2 (by decide) rfl rfl)<|z2 (zx (c := .int _ _) isAgg2 rfl ⟨_, (.tail .head)⟩ rfl)<|z2 (yx rfl rfl)<|z6<|yi (γ := Int) [2, 3, 4] (fun x => []) (fun x => [(i4, .cells 75 [.int .i64 0, .int .i64 0]), (i2, .cells 75 [.int .i64 x, .int .i64 a.2])]) (fun x => x = imax a.1 b.1) ?_ (fun _ _ h => h) ?_
 ·refine zn rfl (fun c => ?_) (fun c => ?_)
  ·refine z7 rfl<|z2 (zc underlying75 rfl sizeOf2 (by decide) rfl rfl)<|z2 (zLi isAgg2 rfl)<|z2 (zt underlying75 rfl sizeOf2 (by decide) rfl rfl)<|q0 (l := [_]) (new := [_, _]) sizeOf2 rfl rfl rfl rfl rfl rfl (.tail .head) rfl rfl<|z6 ?_
   exact ⟨b.1, zR3, trivial, zLe, by rw [imax, if_pos c]⟩
  ·refine zg ?_
   exact ⟨a.1, zR3, trivial, zLe, by rw [imax, if_neg c]⟩
 ·rintro x hx
  refine za<|za<|z7 rfl<|z2 (zc underlying75 rfl sizeOf2 (by decide) rfl rfl)<|z2 (zLi isAgg2 rfl)<|z2 (zt underlying75 rfl sizeOf2 (by decide) rfl rfl)<|z2 (zx (c := .int _ _) isAgg2 rfl ⟨_, (.tail .head)⟩ rfl)<|z2 (yc rfl rfl)<|z6<|yi (γ := Int) [2, 4] (fun y => []) (fun y => [(i4, .cells 75 [.int .i64 0, .int .i64 0]), (i2, .cells 75 [.int .i64 x, .int .i64 y])]) (fun y => y = imin a.2 b.2) ?_ (fun _ _ h => h) ?_
  ·refine zn rfl (fun c => ?_) (fun c => ?_)
   ·refine z7 rfl<|z2 (zc underlying75 rfl sizeOf2 (by decide) rfl rfl)<|z2 (zLi isAgg2 rfl)<|z2 (zt underlying75 rfl sizeOf2 (by decide) rfl rfl)<|q0 (l := [_]) (new := [_, _]) sizeOf2 rfl rfl rfl rfl rfl rfl (.tail .head) rfl rfl<|z6 ?_
    exact ⟨b.2, zR2, trivial, zLe, by rw [imin, if_pos c]⟩
   ·refine zg ?_
    exact ⟨a.2, zR2, trivial, zLe, by rw [imin, if_neg c]⟩
  ·rintro y hy
   rw [rMeet, ← hx, ← hy, rMade]
   refine za<|za<|z7 rfl<|z2 (zt underlying75 rfl sizeOf2 (by decide) rfl rfl)<|z2 (zx (c := .int _ _) isAgg2 rfl ⟨_, (.tail .head)⟩ rfl)<|z2 (zt underlying75 rfl sizeOf2 (by decide) rfl rfl)<|z2 (zx (c := .int _ _) isAgg2 rfl ⟨_, (.tail .head)⟩ rfl)<|z2 (yx rfl rfl)<|z6<|zn rfl (fun c => ?_) (fun c => ?_)
   ·refine za<|z7 rfl<|zd (rNone) rfl<|ze sizeOf75 rfl rfl rfl rfl rfl rfl .head rfl<|z6<|zf<|yf rfl ⟨_, .head⟩ isAgg75 sizeOf75 rfl ?_
    rw [if_pos c]; try rfl
   ·refine zg<|za<|z7 rfl<|z2 (yw isAgg75 sizeOf75 rfl ⟨_, (.tail .head)⟩ rfl)<|ze sizeOf75 rfl rfl rfl rfl rfl rfl .head rfl<|z6<|zf<|yf rfl ⟨_, .head⟩ isAgg75 sizeOf75 rfl ?_
    rw [if_neg c]; try rfl
theorem rJoin_s (a b : Rng) : AFun Tryz.prog E 71 [.agg (encZ a), .agg (encZ b)] (.agg (encZ (rJoin a b))) := by
 rw [← qJoin_eq]
 refine zp func71 rfl (by decide) rfl<|za<|z7 rfl<|yo (cs := _) rfl rfl rfl rfl<|fun i2 => yo (cs := _) rfl rfl rfl rfl<|fun i3 => zq (cs := [.int .i64 0, .int .i64 0]) zeroValue75 rfl rfl<|fun i4 => z6<|za<|za<|z7 rfl<|z2 (zt underlying75 rfl sizeOf2 (by decide) rfl rfl)<|z2 (zx (c := .int _ _) isAgg2 rfl ⟨_, (.tail (.tail .head))⟩ rfl)<|z2 (zt underlying75 rfl sizeOf2 (by decide) rfl rfl)<|z2 (zx (c := .int _ _) isAgg2 rfl ⟨_, (.tail (.tail .head))⟩ rfl)<|z2 (yx rfl rfl)<|z6<|yi (γ := Rng) [2, 3, 4] (fun p => []) (fun p => [(i4, .cells 75 [.int .i64 0, .int .i64 0]), (i3, .cells 75 (encZ b)), (i2, .cells 75 (encZ p))]) (fun p => p = if a.2 < a.1 then b else a) ?_ (fun _ _ h => h) ?_
 ·refine zn rfl (fun c => ?_) (fun c => ?_)
  ·refine z7 rfl<|z2 (yw isAgg75 sizeOf75 rfl ⟨_, (.tail .head)⟩ rfl)<|ze sizeOf75 rfl rfl rfl rfl rfl rfl (.tail (.tail .head)) rfl<|z6 ?_
   exact ⟨b, zR3, trivial, zLe, by rw [if_pos c]⟩
  ·refine zg ?_
   exact ⟨a, zR3, trivial, zLe, by rw [if_neg c]⟩
 ·rintro p hp
  refine za<|za<|z7 rfl<|z2 (zt underlying75 rfl sizeOf2 (by decide) rfl rfl)<|z2 (zx (c := .int _ _) isAgg2 rfl ⟨_, (.tail .head)⟩ rfl)<|z2 (zt underlying75 rfl sizeOf2 (by decide) rfl rfl)<|z2 (zx (c := .int _ _) isAgg2 rfl ⟨_, (.tail .head)⟩ rfl)<|z2 (yx rfl rfl)<|z6<|yi (γ := Rng) [2, 3, 4] (fun q => []) (fun q => [(i4, .cells 75 [.int .i64 0, .int .i64 0]), (i3, .cells 75 (encZ q)), (i2, .cells 75 (encZ p))]) (fun q => q = if b.2 < b.1 then p else b) ?_ (fun _ _ h => h) ?_
  ·refine zn rfl (fun c => ?_) (fun c => ?_)
   ·refine z7 rfl<|z2 (yw isAgg75 sizeOf75 rfl ⟨_, (.tail (.tail .head))⟩ rfl)<|ze sizeOf75 rfl rfl rfl rfl rfl rfl (.tail .head) rfl<|z6 ?_
    exact ⟨p, zR3, trivial, zLe, by rw [if_pos c]⟩
   ·refine zg ?_
    exact ⟨b, zR3, trivial, zLe, by rw [if_neg c]⟩
  ·rintro q hq
   refine za<|za<|z7 rfl<|z2 (zt underlying75 rfl sizeOf2 (by decide) rfl rfl)<|z2 (zx (c := .int _ _) isAgg2 rfl ⟨_, (.tail .head)⟩ rfl)<|z2 (zt underlying75 rfl sizeOf2 (by decide) rfl rfl)<|z2 (zx (c := .int _ _) isAgg2 rfl ⟨_, (.tail (.tail .head))⟩ rfl)<|z2 (yc rfl rfl)<|z6<|yi (γ := Int) [2, 3, 4] (fun x => []) (fun x => [(i4, .cells 75 [.int .i64 0, .int .i64 0]), (i3, .cells 75 (encZ q)), (i2, .cells 75 [.int .i64 x, .int .i64 p.2])]) (fun x => x = if q.1 < p.1 then q.1 else p.1) ?_ (fun _ _ h => h) ?_
   ·refine zn rfl (fun c => ?_) (fun c => ?_)
    ·refine z7 rfl<|z2 (zt underlying75 rfl sizeOf2 (by decide) rfl rfl)<|z2 (zx (c := .int _ _) isAgg2 rfl ⟨_, (.tail .head)⟩ rfl)<|z2 (zt underlying75 rfl sizeOf2 (by decide) rfl rfl)<|q0 (l := [_]) (new := [_, _]) sizeOf2 rfl rfl rfl rfl rfl rfl (.tail (.tail .head)) rfl rfl<|z6 ?_
     exact ⟨q.1, zR3, trivial, zLe, by rw [if_pos c]⟩
    ·refine zg ?_
     exact ⟨p.1, zR3, trivial, zLe, by rw [if_neg c]⟩
   ·rintro x hx
    refine za<|za<|z7 rfl<|z2 (zt underlying75 rfl sizeOf2 (by decide) rfl rfl)<|z2 (zx (c := .int _ _) isAgg2 rfl ⟨_, (.tail .head)⟩ rfl)<|z2 (zt underlying75 rfl sizeOf2 (by decide) rfl rfl)<|z2 (zx (c := .int _ _) isAgg2 rfl ⟨_, (.tail (.tail .head))⟩ rfl)<|z2 (yx rfl rfl)<|z6<|yi (γ := Int) [2, 4] (fun y => []) (fun y => [(i4, .cells 75 [.int .i64 0, .int .i64 0]), (i3, .cells 75 (encZ q)), (i2, .cells 75 [.int .i64 x, .int .i64 y])]) (fun y => y = if p.2 < q.2 then q.2 else p.2) ?_ (fun _ _ h => h) ?_
    ·refine zn rfl (fun c => ?_) (fun c => ?_)
     ·refine z7 rfl<|z2 (zt underlying75 rfl sizeOf2 (by decide) rfl rfl)<|z2 (zx (c := .int _ _) isAgg2 rfl ⟨_, (.tail .head)⟩ rfl)<|z2 (zt underlying75 rfl sizeOf2 (by decide) rfl rfl)<|q0 (l := [_]) (new := [_, _]) sizeOf2 rfl rfl rfl rfl rfl rfl (.tail (.tail .head)) rfl rfl<|z6 ?_
      exact ⟨q.2, zR2, trivial, zLe, by rw [if_pos c]⟩
     ·refine zg ?_
      exact ⟨p.2, zR2, trivial, zLe, by rw [if_neg c]⟩
    ·rintro y hy
     have hqj : qJoin a b = if y < x then noR else (x, y) := by subst hx hy hq hp; rfl
     rw [hqj]
     refine za<|za<|z7 rfl<|z2 (zt underlying75 rfl sizeOf2 (by decide) rfl rfl)<|z2 (zx (c := .int _ _) isAgg2 rfl ⟨_, (.tail (.tail .head))⟩ rfl)<|z2 (zt underlying75 rfl sizeOf2 (by decide) rfl rfl)<|z2 (zx (c := .int _ _) isAgg2 rfl ⟨_, (.tail (.tail .head))⟩ rfl)<|z2 (yx rfl rfl)<|z6<|zn rfl (fun c => ?_) (fun c => ?_)
     ·refine za<|z7 rfl<|zd (rNone) rfl<|ze sizeOf75 rfl rfl rfl rfl rfl rfl .head rfl<|z6<|zf<|yf rfl ⟨_, .head⟩ isAgg75 sizeOf75 rfl ?_
      rw [if_pos c]; try rfl
     ·refine zg<|za<|z7 rfl<|z2 (yw isAgg75 sizeOf75 rfl ⟨_, (.tail (.tail .head))⟩ rfl)<|ze sizeOf75 rfl rfl rfl rfl rfl rfl .head rfl<|z6<|zf<|yf rfl ⟨_, .head⟩ isAgg75 sizeOf75 rfl ?_
      rw [if_neg c]; try rfl
theorem rTruth (no yes : Bool) : AFun Tryz.prog E 128 [.bool no, .bool yes] (.agg (encZ (truQ no yes))) := by
 refine zp func128 rfl (by decide) rfl<|za<|z7 rfl<|zq (cs := [.int .i64 0, .int .i64 0]) zeroValue75 rfl rfl<|fun i4 => z6<|za<|z7 rfl<|z2 (y3 (cps := [(0, [_]), (1, [_])]) (rs := [_, _]) pl75 rfl rfl rfl)<|zq (cs := [.int .i64 0, .int .i64 0]) zeroValue75 rfl rfl<|fun i5 => ze sizeOf75 rfl rfl rfl rfl rfl rfl .head rfl<|z6<|za<|za<|z7 rfl<|z2 (zMb rfl)<|z2 (yk rfl)<|z6<|y4 rfl (fun c1 => ?_) (fun c1 => ?_)
 ·refine z7 rfl<|z2 (zt underlying75 rfl sizeOf2 (by decide) rfl rfl)<|q0 (l := [_]) (new := [_, _]) sizeOf2 rfl rfl rfl rfl rfl rfl .head rfl rfl<|z6<|za<|za<|z7 rfl<|z2 (zMb rfl)<|z2 (yk rfl)<|z6<|y4 rfl (fun c2 => ?_) (fun c2 => ?_)
  ·refine z7 rfl<|z2 (zt underlying75 rfl sizeOf2 (by decide) rfl rfl)<|q0 (l := [_]) (new := [_, _]) sizeOf2 rfl rfl rfl rfl rfl rfl .head rfl rfl<|z6<|za<|z7 rfl<|z2 (yw isAgg75 sizeOf75 rfl ⟨_, .head⟩ rfl)<|ze sizeOf75 rfl rfl rfl rfl rfl rfl (.tail .head) rfl<|z6<|zf<|yf rfl ⟨_, (.tail .head)⟩ isAgg75 sizeOf75 rfl ?_
   rw [show no = false by simpa using c1, show yes = false by simpa using c2]; try rfl
  ·refine zg<|za<|z7 rfl<|z2 (yw isAgg75 sizeOf75 rfl ⟨_, .head⟩ rfl)<|ze sizeOf75 rfl rfl rfl rfl rfl rfl (.tail .head) rfl<|z6<|zf<|yf rfl ⟨_, (.tail .head)⟩ isAgg75 sizeOf75 rfl ?_
   rw [show no = false by simpa using c1, show yes = true by simpa using c2]; try rfl
 ·refine zg<|za<|za<|z7 rfl<|z2 (zMb rfl)<|z2 (yk rfl)<|z6<|y4 rfl (fun c2 => ?_) (fun c2 => ?_)
  ·refine z7 rfl<|z2 (zt underlying75 rfl sizeOf2 (by decide) rfl rfl)<|q0 (l := [_]) (new := [_, _]) sizeOf2 rfl rfl rfl rfl rfl rfl .head rfl rfl<|z6<|za<|z7 rfl<|z2 (yw isAgg75 sizeOf75 rfl ⟨_, .head⟩ rfl)<|ze sizeOf75 rfl rfl rfl rfl rfl rfl (.tail .head) rfl<|z6<|zf<|yf rfl ⟨_, (.tail .head)⟩ isAgg75 sizeOf75 rfl ?_
   rw [show no = true by simpa using c1, show yes = false by simpa using c2]; try rfl
  ·refine zg<|za<|z7 rfl<|z2 (yw isAgg75 sizeOf75 rfl ⟨_, .head⟩ rfl)<|ze sizeOf75 rfl rfl rfl rfl rfl rfl (.tail .head) rfl<|z6<|zf<|yf rfl ⟨_, (.tail .head)⟩ isAgg75 sizeOf75 rfl ?_
   rw [show no = true by simpa using c1, show yes = true by simpa using c2]; try rfl
theorem rWide (a b : Rng) : AFun Tryz.prog E 182 [.agg (encZ a), .agg (encZ b)] (.agg (encZ (wideQ a b))) := by
 refine zp func182 rfl (by decide) rfl<|za<|z7 rfl<|yo (cs := _) rfl rfl rfl rfl<|fun i2 => y7 (cs := _) rfl rfl rfl<|zq (cs := [.int .i64 0, .int .i64 0]) zeroValue75 rfl rfl<|fun i4 => z6<|za<|za<|z7 rfl<|z2 (zc underlying75 rfl sizeOf2 (by decide) rfl rfl)<|z2 (zLi isAgg2 rfl)<|z2 (zt underlying75 rfl sizeOf2 (by decide) rfl rfl)<|z2 (zx (c := .int _ _) isAgg2 rfl ⟨_, (.tail .head)⟩ rfl)<|z2 (yc rfl rfl)<|z6<|yi (γ := Int) [2, 3, 4] (fun x => []) (fun x => [(i4, .cells 75 [.int .i64 0, .int .i64 0]), (i2, .cells 75 [.int .i64 x, .int .i64 a.2])]) (fun x => x = if b.1 < a.1 then b.1 else a.1) ?_ (fun _ _ h => h) ?_
 ·refine zn rfl (fun c => ?_) (fun c => ?_)
  ·refine z7 rfl<|z2 (zc underlying75 rfl sizeOf2 (by decide) rfl rfl)<|z2 (zLi isAgg2 rfl)<|z2 (zt underlying75 rfl sizeOf2 (by decide) rfl rfl)<|q0 (l := [_]) (new := [_, _]) sizeOf2 rfl rfl rfl rfl rfl rfl (.tail .head) rfl rfl<|z6 ?_
   exact ⟨b.1, zR3, trivial, zLe, by rw [if_pos c]⟩
  ·refine zg ?_
   exact ⟨a.1, zR3, trivial, zLe, by rw [if_neg c]⟩
 ·rintro x hx
  rw [wideQ, ← hx]
  refine za<|za<|z7 rfl<|z2 (zc underlying75 rfl sizeOf2 (by decide) rfl rfl)<|z2 (zLi isAgg2 rfl)<|z2 (zt underlying75 rfl sizeOf2 (by decide) rfl rfl)<|z2 (zx (c := .int _ _) isAgg2 rfl ⟨_, (.tail .head)⟩ rfl)<|z2 (yx rfl rfl)<|z6<|zn rfl (fun c => ?_) (fun c => ?_)
  ·refine z7 rfl<|z2 (zc underlying75 rfl sizeOf2 (by decide) rfl rfl)<|z2 (zLi isAgg2 rfl)<|z2 (zt underlying75 rfl sizeOf2 (by decide) rfl rfl)<|q0 (l := [_]) (new := [_, _]) sizeOf2 rfl rfl rfl rfl rfl rfl (.tail .head) rfl rfl<|z6<|za<|z7 rfl<|z2 (yw isAgg75 sizeOf75 rfl ⟨_, (.tail .head)⟩ rfl)<|ze sizeOf75 rfl rfl rfl rfl rfl rfl .head rfl<|z6<|zf<|yf rfl ⟨_, .head⟩ isAgg75 sizeOf75 rfl ?_
   rw [if_pos c]; try rfl
  ·refine zg<|za<|z7 rfl<|z2 (yw isAgg75 sizeOf75 rfl ⟨_, (.tail .head)⟩ rfl)<|ze sizeOf75 rfl rfl rfl rfl rfl rfl .head rfl<|z6<|zf<|yf rfl ⟨_, .head⟩ isAgg75 sizeOf75 rfl ?_
   rw [if_neg c]; try rfl
theorem rHull (a b : Int) : AFun Tryz.prog E 183 [.int .i64 a, .int .i64 b] (.agg (encZ (hullQ a b))) := by
 refine zp func183 rfl (by decide) rfl<|za<|z7 rfl<|zq (cs := [.int .i64 0, .int .i64 0]) zeroValue75 rfl rfl<|fun i4 => z6<|za<|za<|z7 rfl<|z2 (zMi rfl)<|z2 (zMi rfl)<|z2 (yx rfl rfl)<|z6<|zn rfl (fun c => ?_) (fun c => ?_)
 ·refine z7 rfl<|z2 (zMi rfl)<|z2 (zMi rfl)<|z2 (zAi rfl)<|z2 (zAi rfl)<|z6<|za<|z7 rfl<|z2 (zMi rfl)<|z2 (zMi rfl)<|z2 (y3 (cps := [(0, [_]), (1, [_])]) (rs := [_, _]) pl75 rfl rfl rfl)<|ze sizeOf75 rfl rfl rfl rfl rfl rfl .head rfl<|z6<|zf<|yf rfl ⟨_, .head⟩ isAgg75 sizeOf75 rfl ?_
  rw [hullQ, if_pos c]; try rfl
 ·refine zg<|za<|z7 rfl<|z2 (zMi rfl)<|z2 (zMi rfl)<|z2 (y3 (cps := [(0, [_]), (1, [_])]) (rs := [_, _]) pl75 rfl rfl rfl)<|ze sizeOf75 rfl rfl rfl rfl rfl rfl .head rfl<|z6<|zf<|yf rfl ⟨_, .head⟩ isAgg75 sizeOf75 rfl ?_
  rw [hullQ, if_neg c]; try rfl
theorem rFits2 {k : Nat} (hk : k ≤ 2) {x y : Int} (hx : is64 x) (hy : is64 y) : AFun Tryz.prog E 133 [.int .i64 k, .int .i64 x, .int .i64 y] (.bool (decide (fit3 k x y))) := by
 have hx1 := hx; have hy1 := hy
 unfold is64 at hx1 hy1
 refine zp func133 rfl (by decide) rfl<|za<|z7 rfl<|z2 (zAb rfl)<|z6<|za<|za<|z7 rfl<|z2 (zMi rfl)<|z6<|zm<|za<|z7 rfl<|z2 (zy rfl rfl)<|z2 (zAb rfl)<|z6<|zn rfl (fun c0 => ?_) (fun c0 => ?_)
 ·have hk0 : k = 0 := by omega
  subst hk0
  refine za<|z7 rfl<|z2 (zMi rfl)<|z2 (yx rfl rfl)<|z2 (zMb rfl)<|zr (s := 16) rfl (fun c1 => ?_) (fun c1 => ?_)
  ·refine zb rfl rfl c1<|z2 (zMi rfl)<|zb rfl rfl c1<|z2 (zMi rfl)<|zb rfl rfl c1<|z2 (Gv.sub rfl rfl (by unfold I64; simp at *; omega))<|zb rfl rfl c1<|z2 (yx rfl rfl)<|z2 (zPt rfl c1 rfl)<|z2 (yk rfl)<|z2 (zMb rfl)<|zr (s := 23) rfl (fun c2 => ?_) (fun c2 => ?_)
   ·refine zb rfl rfl c2<|z2 (zMi rfl)<|zb rfl rfl c2<|z2 (yc rfl rfl)<|zb rfl rfl c2<|z2 (zMb rfl)<|zr (s := 26) rfl (fun c3 => ?_) (fun c3 => ?_)
    ·refine zb rfl rfl c3<|z2 (zMi rfl)<|zb rfl rfl c3<|z2 (zMi rfl)<|zb rfl rfl c3<|z2 (Gv.sub rfl rfl (by unfold I64; simp at *; omega))<|zb rfl rfl c3<|z2 (yc rfl rfl)<|zb rfl rfl c2<|z2 (zPt rfl c3 rfl)<|zb rfl rfl c2<|z2 (yk rfl)<|z2 (zPt rfl c2 rfl)<|z2 (zAb rfl)<|z6<|zf<|zo (x := .bool _) rfl ?_
     exact jb (by rw [qt]; unfold fit3 op3 is64; simp at * <;> omega)
    ·refine z8 rfl rfl c3<|z8 rfl rfl c3<|z8 rfl rfl c3<|z8 rfl rfl c3<|zb rfl rfl c2<|z2 (zPf rfl c3 rfl)<|zb rfl rfl c2<|z2 (yk rfl)<|z2 (zPt rfl c2 rfl)<|z2 (zAb rfl)<|z6<|zf<|zo (x := .bool _) rfl ?_
     exact jb (by rw [qt]; unfold fit3 op3 is64; simp at * <;> omega)
   ·refine z8 rfl rfl c2<|z8 rfl rfl c2<|z8 rfl rfl c2<|zk rfl rfl<|zk rfl rfl<|zk rfl rfl<|zk rfl rfl<|z8 rfl rfl c2<|z8 rfl rfl c2<|z2 (zPf rfl c2 rfl)<|z2 (zAb rfl)<|z6<|zf<|zo (x := .bool _) rfl ?_
    exact jb (by rw [qt]; unfold fit3 op3 is64; simp at * <;> omega)
  ·refine z8 rfl rfl c1<|z8 rfl rfl c1<|z8 rfl rfl c1<|z8 rfl rfl c1<|z2 (zPf rfl c1 rfl)<|z2 (yk rfl)<|z2 (zMb rfl)<|zb rfl rfl rfl<|z2 (zMi rfl)<|zb rfl rfl rfl<|z2 (yc rfl rfl)<|zb rfl rfl rfl<|z2 (zMb rfl)<|zr (s := 26) rfl (fun c4 => ?_) (fun c4 => ?_)
   ·refine zb rfl rfl c4<|z2 (zMi rfl)<|zb rfl rfl c4<|z2 (zMi rfl)<|zb rfl rfl c4<|z2 (Gv.sub rfl rfl (by unfold I64; simp at *; omega))<|zb rfl rfl c4<|z2 (yc rfl rfl)<|zb rfl rfl rfl<|z2 (zPt rfl c4 rfl)<|zb rfl rfl rfl<|z2 (yk rfl)<|z2 (zPt rfl rfl rfl)<|z2 (zAb rfl)<|z6<|zf<|zo (x := .bool _) rfl ?_
    exact jb (by rw [qt]; unfold fit3 op3 is64; simp at * <;> omega)
   ·refine z8 rfl rfl c4<|z8 rfl rfl c4<|z8 rfl rfl c4<|z8 rfl rfl c4<|zb rfl rfl rfl<|z2 (zPf rfl c4 rfl)<|zb rfl rfl rfl<|z2 (yk rfl)<|z2 (zPt rfl rfl rfl)<|z2 (zAb rfl)<|z6<|zf<|zo (x := .bool _) rfl ?_
    exact jb (by rw [qt]; unfold fit3 op3 is64; simp at * <;> omega)
 ·refine za<|z7 rfl<|z2 (zy rfl rfl)<|z2 (zAb rfl)<|z6<|zn rfl (fun c1 => ?_) (fun c1 => ?_)
  ·have hk1 : k = 1 := by omega
   subst hk1
   refine za<|z7 rfl<|z2 (zMi rfl)<|z2 (yc rfl rfl)<|z2 (zMb rfl)<|zr (s := 38) rfl (fun c5 => ?_) (fun c5 => ?_)
   ·refine zb rfl rfl c5<|z2 (zMi rfl)<|zb rfl rfl c5<|z2 (zMi rfl)<|zb rfl rfl c5<|z2 (yd rfl rfl (by unfold I64; simp at *; omega))<|zb rfl rfl c5<|z2 (yx rfl rfl)<|z2 (zPt rfl c5 rfl)<|z2 (yk rfl)<|z2 (zMb rfl)<|zr (s := 45) rfl (fun c6 => ?_) (fun c6 => ?_)
    ·refine zb rfl rfl c6<|z2 (zMi rfl)<|zb rfl rfl c6<|z2 (yx rfl rfl)<|zb rfl rfl c6<|z2 (zMb rfl)<|zr (s := 48) rfl (fun c7 => ?_) (fun c7 => ?_)
     ·refine zb rfl rfl c7<|z2 (zMi rfl)<|zb rfl rfl c7<|z2 (zMi rfl)<|zb rfl rfl c7<|z2 (yd rfl rfl (by unfold I64; simp at *; omega))<|zb rfl rfl c7<|z2 (yc rfl rfl)<|zb rfl rfl c6<|z2 (zPt rfl c7 rfl)<|zb rfl rfl c6<|z2 (yk rfl)<|z2 (zPt rfl c6 rfl)<|z2 (zAb rfl)<|z6<|zf<|zo (x := .bool _) rfl ?_
      exact jb (by rw [qt]; unfold fit3 op3 is64; simp at * <;> omega)
     ·refine z8 rfl rfl c7<|z8 rfl rfl c7<|z8 rfl rfl c7<|z8 rfl rfl c7<|zb rfl rfl c6<|z2 (zPf rfl c7 rfl)<|zb rfl rfl c6<|z2 (yk rfl)<|z2 (zPt rfl c6 rfl)<|z2 (zAb rfl)<|z6<|zf<|zo (x := .bool _) rfl ?_
      exact jb (by rw [qt]; unfold fit3 op3 is64; simp at * <;> omega)
    ·refine z8 rfl rfl c6<|z8 rfl rfl c6<|z8 rfl rfl c6<|zk rfl rfl<|zk rfl rfl<|zk rfl rfl<|zk rfl rfl<|z8 rfl rfl c6<|z8 rfl rfl c6<|z2 (zPf rfl c6 rfl)<|z2 (zAb rfl)<|z6<|zf<|zo (x := .bool _) rfl ?_
     exact jb (by rw [qt]; unfold fit3 op3 is64; simp at * <;> omega)
   ·refine z8 rfl rfl c5<|z8 rfl rfl c5<|z8 rfl rfl c5<|z8 rfl rfl c5<|z2 (zPf rfl c5 rfl)<|z2 (yk rfl)<|z2 (zMb rfl)<|zb rfl rfl rfl<|z2 (zMi rfl)<|zb rfl rfl rfl<|z2 (yx rfl rfl)<|zb rfl rfl rfl<|z2 (zMb rfl)<|zr (s := 48) rfl (fun c8 => ?_) (fun c8 => ?_)
    ·refine zb rfl rfl c8<|z2 (zMi rfl)<|zb rfl rfl c8<|z2 (zMi rfl)<|zb rfl rfl c8<|z2 (yd rfl rfl (by unfold I64; simp at *; omega))<|zb rfl rfl c8<|z2 (yc rfl rfl)<|zb rfl rfl rfl<|z2 (zPt rfl c8 rfl)<|zb rfl rfl rfl<|z2 (yk rfl)<|z2 (zPt rfl rfl rfl)<|z2 (zAb rfl)<|z6<|zf<|zo (x := .bool _) rfl ?_
     exact jb (by rw [qt]; unfold fit3 op3 is64; simp at * <;> omega)
    ·refine z8 rfl rfl c8<|z8 rfl rfl c8<|z8 rfl rfl c8<|z8 rfl rfl c8<|zb rfl rfl rfl<|z2 (zPf rfl c8 rfl)<|zb rfl rfl rfl<|z2 (yk rfl)<|z2 (zPt rfl rfl rfl)<|z2 (zAb rfl)<|z6<|zf<|zo (x := .bool _) rfl ?_
     exact jb (by rw [qt]; unfold fit3 op3 is64; simp at * <;> omega)
  ·have hk2 : k = 2 := by omega
   subst hk2
   refine zg<|za<|za<|yi (γ := Bool) [1, 2] (fun u => [(61, .bool u)]) (fun u => []) (fun u => u = decide (x = 0 ∨ y = 0)) ?_ (fun _ _ h => h) ?_
   ·refine z7 rfl<|z2 (zMi rfl)<|z2 (zy rfl rfl)<|z2 (zMb rfl)<|zr (s := 58) rfl (fun c9 => ?_) (fun c9 => ?_)
    ·refine z8 rfl rfl c9<|z8 rfl rfl c9<|z2 (zPt rfl c9 rfl)<|z6 ?_
     exact ⟨_, zR2, zR1, zLe, by simp_all⟩
    ·refine zb rfl rfl c9<|z2 (zMi rfl)<|zb rfl rfl c9<|z2 (zy rfl rfl)<|z2 (zPf rfl c9 rfl)<|z6 ?_
     exact ⟨_, zR2, zR1, zLe, by simp_all⟩
   ·rintro u hu
    subst hu
    refine zn rfl (fun cz => ?_) (fun cz => ?_)
    ·refine za<|z7 rfl<|z2 (zAb rfl)<|z6<|zf<|zo (x := .bool _) rfl ?_
     exact jb (by rw [qw]; unfold fit3; rw [show op3 2 x y = x * y from rfl]; rcases cz with h | h <;> rw [h] <;> simp [is64])
    ·have hx0 : x ≠ 0 := fun e => cz (.inl e)
     have hy0 : y ≠ 0 := fun e => cz (.inr e)
     refine zg<|za<|z7 rfl<|z2 (zMi rfl)<|z2 (yc rfl rfl)<|z2 (zMi rfl)<|z2 (yc rfl rfl)<|z2 (Gv.eqlB underlying4 rfl rfl)<|z2 (zAb rfl)<|z6<|za<|z7 rfl<|z2 (zMi rfl)<|z2 (qb underlying2 underlying232 rfl)<|z2 (zMi rfl)<|z2 (qb underlying2 underlying232 rfl)<|z2 (zAi rfl)<|z2 (zAi rfl)<|z6<|za<|za<|z7 rfl<|z2 (zMi rfl)<|z2 (yc rfl rfl)<|z6<|yi (γ := Int) [2, 7, 9] (fun u => [(8, .int .u64 u)]) (fun u => []) (fun u => u = (x.natAbs : Int)) ?_ (fun _ _ h => h) ?_
     ·refine zn rfl (fun c => ?_) (fun c => ?_)
      ·refine z7 rfl<|z2 (zMi rfl)<|z2 (Gv.neg rfl)<|z2 (zAi rfl)<|z6 ?_
       exact ⟨_, zR3, zR1, zLe, by have := abs_wrap hx; rwa [if_pos c] at this⟩
      ·refine zg ?_
       exact ⟨_, zR3, zR1, zLe, by have := abs_wrap hx; rwa [if_neg c] at this⟩
     ·rintro u hu
      subst hu
      refine za<|za<|z7 rfl<|z2 (zMi rfl)<|z2 (yc rfl rfl)<|z6<|yi (γ := Int) [7, 8] (fun u => [(9, .int .u64 u)]) (fun u => []) (fun u => u = (y.natAbs : Int)) ?_ (fun _ _ h => h) ?_
      ·refine zn rfl (fun c => ?_) (fun c => ?_)
       ·refine z7 rfl<|z2 (zMi rfl)<|z2 (Gv.neg rfl)<|z2 (zAi rfl)<|z6 ?_
        exact ⟨_, zR2, zR1, zLe, by have := abs_wrap hy; rwa [if_pos c] at this⟩
       ·refine zg ?_
        exact ⟨_, zR2, zR1, zLe, by have := abs_wrap hy; rwa [if_neg c] at this⟩
      ·rintro u hu
       subst hu
       refine za<|z7 rfl<|z2 (zAi rfl)<|z6<|za<|za<|z7 rfl<|z2 (zMb rfl)<|z2 (yk rfl)<|z6<|yi (γ := Int) [8, 9] (fun u => [(10, .int .u64 u)]) (fun u => []) (fun u => u = (if (decide (x < 0) == decide (y < 0)) = true then 9223372036854775807 else 9223372036854775808)) ?_ (fun _ _ h => h) ?_
       ·refine y4 rfl (fun c => ?_) (fun c => ?_)
        ·refine z7 rfl<|z2 (zAi rfl)<|z6 ?_
         exact ⟨_, zR2, zR1, zLe, by rw [if_neg (by simpa using c)]⟩
        ·refine zg ?_
         exact ⟨_, zR2, zR1, zLe, by rw [if_pos (by simpa using c)]⟩
       ·rintro u hu
        subst hu
        refine za<|z7 rfl<|z2 (zMi rfl)<|z2 (zMi rfl)<|z2 (zMi rfl)<|z2 (Gv.quo rfl rfl (by omega))<|z2 (Gv.leq rfl rfl)<|z2 (zAb rfl)<|z6<|zf<|zo (x := .bool _) rfl ?_
        exact jb (fitU hx hx0 hy0)
theorem rWrap {k : Nat} (hk : k ≤ 2) {x y : Int} : AFun Tryz.prog E 221 [.int .i64 k, .int .i64 x, .int .i64 y] (.int .i64 (IntKind.i64.wrap (op3 k x y))) := by
 refine zp func221 rfl (by decide) rfl<|za<|z7 rfl<|z2 (zAi rfl)<|z6<|za<|za<|z7 rfl<|z2 (zMi rfl)<|z6<|zm<|za<|z7 rfl<|z2 (zy rfl rfl)<|z2 (zAb rfl)<|z6<|zn rfl (fun c0 => ?_) (fun c0 => ?_)
 ·have hk0 : k = 0 := by omega
  subst hk0
  refine za<|z7 rfl<|z2 (zMi rfl)<|z2 (qb underlying2 underlying232 rfl)<|z2 (zMi rfl)<|z2 (qb underlying2 underlying232 rfl)<|z2 (Gv.addW rfl rfl)<|z2 (qb underlying232 underlying2 rfl)<|z2 (zAi rfl)<|z6<|zf<|zo (x := .int _ _) rfl ?_
  exact congrArg (AV.int .i64) (wrapU_add x y)
 ·refine za<|z7 rfl<|z2 (zy rfl rfl)<|z2 (zAb rfl)<|z6<|zn rfl (fun c1 => ?_) (fun c1 => ?_)
  ·have hk1 : k = 1 := by omega
   subst hk1
   refine za<|z7 rfl<|z2 (zMi rfl)<|z2 (qb underlying2 underlying232 rfl)<|z2 (zMi rfl)<|z2 (qb underlying2 underlying232 rfl)<|z2 (Gv.subW rfl rfl)<|z2 (qb underlying232 underlying2 rfl)<|z2 (zAi rfl)<|z6<|zf<|zo (x := .int _ _) rfl ?_
   exact congrArg (AV.int .i64) (wrapU_sub x y)
  ·have hk2 : k = 2 := by omega
   subst hk2
   refine zg<|za<|z7 rfl<|z2 (zMi rfl)<|z2 (qb underlying2 underlying232 rfl)<|z2 (zMi rfl)<|z2 (qb underlying2 underlying232 rfl)<|z2 (Gv.mulW rfl rfl)<|z2 (qb underlying232 underlying2 rfl)<|z2 (zAi rfl)<|z6<|zf<|zo (x := .int _ _) rfl ?_
   exact congrArg (AV.int .i64) (wrapU_mul x y)
theorem rOne {k : Nat} (hk : k ≤ 2) {x y : Int} (hx : is64 x) (hy : is64 y) : AFun Tryz.prog E 184 [.int .i64 k, .int .i64 x, .int .i64 y] (.int .i64 (one3 k x y)) := by
 refine zp func184 rfl (by decide) rfl<|za<|z7 rfl<|z2 (zAi rfl)<|z6<|za<|za<|z7 rfl<|z2 (zMi rfl)<|z2 (zMi rfl)<|z2 (zMi rfl)<|zd (rFits2 hk hx hy) rfl<|z6<|zn rfl (fun cf => ?_) (fun cf => ?_)
 ·refine za<|z7 rfl<|z2 (zMi rfl)<|z2 (zMi rfl)<|z2 (zMi rfl)<|zd (rWrap hk) rfl<|z2 (zAi rfl)<|z6<|zf<|zo (x := .int _ _) rfl ?_
  rw [one3, if_pos cf, wrap_fit cf]; try rfl
 ·rw [one3, if_neg cf, near3]
  refine zg<|za<|z7 rfl<|z2 (zMi rfl)<|z2 (yc rfl rfl)<|z2 (zAb rfl)<|z6<|za<|za<|z7 rfl<|z2 (zMi rfl)<|z2 (zy rfl rfl)<|z6<|zn rfl (fun c2 => ?_) (fun c2 => ?_)
  ·have hk2 : k = 2 := by omega
   subst hk2
   rw [if_pos rfl]
   refine z7 rfl<|z2 (zMi rfl)<|z2 (yc rfl rfl)<|z2 (zMi rfl)<|z2 (yc rfl rfl)<|z2 (Gv.neqB underlying4 rfl rfl)<|z2 (zAb rfl)<|z6<|za<|za<|z7 rfl<|z2 (zMb rfl)<|z6<|y4 rfl (fun c => ?_) (fun c => ?_)
   ·refine za<|z7 rfl<|z2 (zAi rfl)<|z6<|zf<|zo (x := .int _ _) rfl ?_
    rw [if_pos (by simpa using c)]; try rfl
   ·refine zg<|za<|z7 rfl<|z2 (zAi rfl)<|z6<|zf<|zo (x := .int _ _) rfl ?_
    rw [if_neg (by simpa using c)]; try rfl
  ·rw [if_neg (show ¬ k = 2 by omega)]
   refine zg<|za<|za<|z7 rfl<|z2 (zMb rfl)<|z6<|y4 rfl (fun c => ?_) (fun c => ?_)
   ·refine za<|z7 rfl<|z2 (zAi rfl)<|z6<|zf<|zo (x := .int _ _) rfl ?_
    rw [if_pos c]; try rfl
   ·refine zg<|za<|z7 rfl<|z2 (zAi rfl)<|z6<|zf<|zo (x := .int _ _) rfl ?_
    rw [if_neg (by simpa using c)]; try rfl
theorem rClip {k : Nat} (hk : k ≤ 2) {a b : Rng} (ha : ok64 a) (hb : ok64 b) : AFun Tryz.prog E 125 [.int .i64 k, .agg (encZ a), .agg (encZ b)] (.agg (encZ (clipQ k a b))) := by
 refine zp func125 rfl (by decide) rfl<|za<|z7 rfl<|y7 (cs := _) rfl rfl rfl<|y7 (cs := _) rfl rfl rfl<|zq (cs := [.int .i64 0, .int .i64 0]) zeroValue75 rfl rfl<|fun i6 => z6<|za<|zw (fun j => Nat.beq j 27) (by kernel_rfl) rfl (zu (.rest _))<|zTk (i := 0) rfl (zMi rfl)<|zTk (i := 1) rfl (zc underlying75 rfl sizeOf2 (by decide) rfl rfl)<|zTk (i := 2) rfl (zLi isAgg2 rfl)<|zTk (i := 3) rfl (zc underlying75 rfl sizeOf2 (by decide) rfl rfl)<|zTk (i := 4) rfl (zLi isAgg2 rfl)<|zTk (i := 6) rfl (zMi rfl)<|zTk (i := 7) rfl (zc underlying75 rfl sizeOf2 (by decide) rfl rfl)<|zTk (i := 8) rfl (zLi isAgg2 rfl)<|zTk (i := 9) rfl (zc underlying75 rfl sizeOf2 (by decide) rfl rfl)<|zTk (i := 10) rfl (zLi isAgg2 rfl)<|zTk (i := 13) rfl (zMi rfl)<|zTk (i := 14) rfl (zc underlying75 rfl sizeOf2 (by decide) rfl rfl)<|zTk (i := 15) rfl (zLi isAgg2 rfl)<|zTk (i := 16) rfl (zc underlying75 rfl sizeOf2 (by decide) rfl rfl)<|zTk (i := 17) rfl (zLi isAgg2 rfl)<|zTk (i := 19) rfl (zMi rfl)<|zTk (i := 20) rfl (zc underlying75 rfl sizeOf2 (by decide) rfl rfl)<|zTk (i := 21) rfl (zLi isAgg2 rfl)<|zTk (i := 22) rfl (zc underlying75 rfl sizeOf2 (by decide) rfl rfl)<|zTk (i := 23) rfl (zLi isAgg2 rfl)<|zOn (i := 5) rfl<|zd (rOne hk ha.1 hb.1) rfl<|z6<|zOn (i := 11) rfl<|zd (rOne hk ha.1 hb.2) rfl<|z6<|zOn (i := 12) rfl<|zd (rHull _ _) rfl<|z6<|zOn (i := 18) rfl<|zd (rOne hk ha.2 hb.1) rfl ?_
 refine z6<|zOn (i := 24) rfl<|zd (rOne hk ha.2 hb.2) rfl<|z6<|zOn (i := 25) rfl<|zd (rHull _ _) rfl<|z6<|zOn (i := 26) rfl<|zd (rWide _ _) rfl<|z6<|ym<|yv (i := 27) rfl (by kernel_rfl) (by kernel_rfl)<|ze sizeOf75 rfl rfl rfl rfl rfl rfl .head rfl<|z6<|yr (by kernel_rfl)<|zf<|yf rfl ⟨_, .head⟩ isAgg75 sizeOf75 rfl ?_
 rfl
theorem rFits {k : Nat} (hk : k ≤ 2) {a b : Rng} (ha : ok64 a) (hb : ok64 b) : AFun Tryz.prog E 109 [.int .i64 k, .agg (encZ a), .agg (encZ b)] (.bool (decide (cornF k a b))) := by
 refine zp func109 rfl (by decide) rfl<|za<|z7 rfl<|y7 (cs := _) rfl rfl rfl<|y7 (cs := _) rfl rfl rfl<|z2 (zAb rfl)<|z6<|za<|z7 rfl<|z2 (zMi rfl)<|z2 (zc underlying75 rfl sizeOf2 (by decide) rfl rfl)<|z2 (zLi isAgg2 rfl)<|z2 (zc underlying75 rfl sizeOf2 (by decide) rfl rfl)<|z2 (zLi isAgg2 rfl)<|zd (rFits2 hk ha.1 hb.1) rfl<|z2 (zMb rfl)<|zr (s := 13) rfl (fun c10 => ?_) (fun c10 => ?_)
 ·refine zb rfl rfl c10<|z2 (zMi rfl)<|zb rfl rfl c10<|z2 (zc underlying75 rfl sizeOf2 (by decide) rfl rfl)<|zb rfl rfl c10<|z2 (zLi isAgg2 rfl)<|zb rfl rfl c10<|z2 (zc underlying75 rfl sizeOf2 (by decide) rfl rfl)<|zb rfl rfl c10<|z2 (zLi isAgg2 rfl)<|zb rfl rfl c10<|zd (rFits2 hk ha.1 hb.2) rfl<|z2 (zPt rfl c10 rfl)<|z2 (zMb rfl)<|zr (s := 21) rfl (fun c11 => ?_) (fun c11 => ?_)
  ·refine zb rfl rfl c11<|z2 (zMi rfl)<|zb rfl rfl c11<|z2 (zc underlying75 rfl sizeOf2 (by decide) rfl rfl)<|zb rfl rfl c11<|z2 (zLi isAgg2 rfl)<|zb rfl rfl c11<|z2 (zc underlying75 rfl sizeOf2 (by decide) rfl rfl)<|zb rfl rfl c11<|z2 (zLi isAgg2 rfl)<|zb rfl rfl c11<|zd (rFits2 hk ha.2 hb.1) rfl<|z2 (zPt rfl c11 rfl)<|z2 (zMb rfl)<|zr (s := 29) rfl (fun c12 => ?_) (fun c12 => ?_)
   ·refine zb rfl rfl c12<|z2 (zMi rfl)<|zb rfl rfl c12<|z2 (zc underlying75 rfl sizeOf2 (by decide) rfl rfl)<|zb rfl rfl c12<|z2 (zLi isAgg2 rfl)<|zb rfl rfl c12<|z2 (zc underlying75 rfl sizeOf2 (by decide) rfl rfl)<|zb rfl rfl c12<|z2 (zLi isAgg2 rfl)<|zb rfl rfl c12<|zd (rFits2 hk ha.2 hb.2) rfl<|z2 (zPt rfl c12 rfl)<|z2 (zAb rfl)<|z6<|zf<|zo (x := .bool _) rfl ?_
    exact jb (by unfold cornF; simp_all)
   ·refine z8 rfl rfl c12<|z8 rfl rfl c12<|z8 rfl rfl c12<|z8 rfl rfl c12<|z8 rfl rfl c12<|z8 rfl rfl c12<|z2 (zPf rfl c12 rfl)<|z2 (zAb rfl)<|z6<|zf<|zo (x := .bool _) rfl ?_
    exact jb (by unfold cornF; simp_all)
  ·refine z8 rfl rfl c11<|z8 rfl rfl c11<|z8 rfl rfl c11<|z8 rfl rfl c11<|z8 rfl rfl c11<|z8 rfl rfl c11<|z2 (zPf rfl c11 rfl)<|z2 (zMb rfl)<|z8 rfl rfl rfl<|z8 rfl rfl rfl<|z8 rfl rfl rfl<|z8 rfl rfl rfl<|z8 rfl rfl rfl<|z8 rfl rfl rfl<|z2 (zPf rfl rfl rfl)<|z2 (zAb rfl)<|z6<|zf<|zo (x := .bool _) rfl ?_
   exact jb (by unfold cornF; simp_all)
 ·refine z8 rfl rfl c10<|z8 rfl rfl c10<|z8 rfl rfl c10<|z8 rfl rfl c10<|z8 rfl rfl c10<|z8 rfl rfl c10<|z2 (zPf rfl c10 rfl)<|z2 (zMb rfl)<|z8 rfl rfl rfl<|z8 rfl rfl rfl<|z8 rfl rfl rfl<|z8 rfl rfl rfl<|z8 rfl rfl rfl<|z8 rfl rfl rfl<|z2 (zPf rfl rfl rfl)<|z2 (zMb rfl)<|z8 rfl rfl rfl<|z8 rfl rfl rfl<|z8 rfl rfl rfl<|z8 rfl rfl rfl<|z8 rfl rfl rfl<|z8 rfl rfl rfl<|z2 (zPf rfl rfl rfl)<|z2 (zAb rfl)<|z6<|zf<|zo (x := .bool _) rfl ?_
  exact jb (by unfold cornF; simp_all)
theorem rDiv2 {x y : Int} (hy : y ≠ 0) : AFun Tryz.prog E 239 [.int .i64 x, .int .i64 y] (.tup [.int .i64 (IntKind.i64.wrap (x.tdiv y)), .int .i64 (if y = -1 then 0 else IntKind.i64.wrap (x - IntKind.i64.wrap (IntKind.i64.wrap (x.tdiv y) * y)))]) := by
 refine zp func239 rfl (by decide) rfl<|za<|z7 rfl<|z2 (zAi rfl)<|z2 (zAi rfl)<|z6<|za<|za<|z7 rfl<|z2 (zMi rfl)<|z2 (zy rfl rfl)<|z6<|zn rfl (fun c => ?_) (fun c => ?_)
 ·refine za<|z7 rfl<|z2 (zMi rfl)<|z2 (qb underlying2 underlying232 rfl)<|z2 (Gv.neg rfl)<|z2 (qb underlying232 underlying2 rfl)<|z2 (zAi rfl)<|z2 (zAi rfl)<|z6<|zf<|qd (x := .int _ _) (y := .int _ _) rfl rfl ?_
  rw [if_pos c, c, wrapU_neg]; try rfl
 ·refine zg<|za<|zw (fun j => false) (by kernel_rfl) rfl (zu (.rest _))<|zTk (i := 0) rfl (zMi rfl)<|zTk (i := 1) rfl (zMi rfl)<|zTk (i := 2) rfl (Gv.quo rfl rfl (by omega))<|zTk (i := 3) rfl (zMi rfl)<|zTk (i := 4) rfl (zMi rfl)<|zTk (i := 5) rfl (zMi rfl)<|zTk (i := 6) rfl (Gv.quo rfl rfl (by omega))<|zTk (i := 7) rfl (zMi rfl)<|zTk (i := 8) rfl (Gv.mulW rfl rfl)<|zTk (i := 9) rfl (Gv.subW rfl rfl)<|zTk (i := 10) rfl (zAi rfl)<|zTk (i := 11) rfl (zAi rfl)<|zDn<|zf<|qd (x := .int _ _) (y := .int _ _) rfl rfl ?_
  rw [if_neg c]; try rfl
theorem rDivQ {x y : Int} (hy : y ≠ 0) : AFun Tryz.prog E 222 [.int .i64 x, .int .i64 y] (.int .i64 (IntKind.i64.wrap (x.tdiv y))) := by
 refine zp func222 rfl (by decide) rfl<|za<|z7 rfl<|z2 (zAi rfl)<|z6<|za<|z7 rfl<|z2 (zMi rfl)<|z2 (zMi rfl)<|zd (rDiv2 hy) rfl<|z2 (y5 (v := .tup _) rfl)<|z2 (yj (v := .int _ _) rfl rfl)<|z2 (yj (v := .int _ _) rfl rfl)<|z2 (zAi rfl)<|z2 (zAi rfl)<|z6<|za<|z7 rfl<|z2 (zMi rfl)<|z2 (zAi rfl)<|z6<|zf<|zo (x := .int _ _) rfl ?_
 rfl
theorem rQuo {a b : Rng} (ha : ok64 a) (hb1 : b.1 ≠ 0) (hb2 : b.2 ≠ 0) (h11 : fitD a.1 b.1 = true) (h12 : fitD a.1 b.2 = true) (h21 : fitD a.2 b.1 = true) (h22 : fitD a.2 b.2 = true) : AFun Tryz.prog E 185 [.agg (encZ a), .agg (encZ b)] (.agg (encZ (quoQ a b))) := by
 unfold quoQ
 rw [← quo_fit ha.1 hb1 h11, ← quo_fit ha.1 hb2 h12, ← quo_fit ha.2 hb1 h21, ← quo_fit ha.2 hb2 h22]
 refine zp func185 rfl (by decide) rfl<|za<|z7 rfl<|y7 (cs := _) rfl rfl rfl<|y7 (cs := _) rfl rfl rfl<|zq (cs := [.int .i64 0, .int .i64 0]) zeroValue75 rfl rfl<|fun i4 => z6<|za<|zw (fun j => Nat.beq j 23) (by kernel_rfl) rfl (zu (.rest _))<|zTk (i := 0) rfl (zc underlying75 rfl sizeOf2 (by decide) rfl rfl)<|zTk (i := 1) rfl (zLi isAgg2 rfl)<|zTk (i := 2) rfl (zc underlying75 rfl sizeOf2 (by decide) rfl rfl)<|zTk (i := 3) rfl (zLi isAgg2 rfl)<|zTk (i := 5) rfl (zc underlying75 rfl sizeOf2 (by decide) rfl rfl)<|zTk (i := 6) rfl (zLi isAgg2 rfl)<|zTk (i := 7) rfl (zc underlying75 rfl sizeOf2 (by decide) rfl rfl)<|zTk (i := 8) rfl (zLi isAgg2 rfl)<|zTk (i := 11) rfl (zc underlying75 rfl sizeOf2 (by decide) rfl rfl)<|zTk (i := 12) rfl (zLi isAgg2 rfl)<|zTk (i := 13) rfl (zc underlying75 rfl sizeOf2 (by decide) rfl rfl)<|zTk (i := 14) rfl (zLi isAgg2 rfl)<|zTk (i := 16) rfl (zc underlying75 rfl sizeOf2 (by decide) rfl rfl)<|zTk (i := 17) rfl (zLi isAgg2 rfl)<|zTk (i := 18) rfl (zc underlying75 rfl sizeOf2 (by decide) rfl rfl)<|zTk (i := 19) rfl (zLi isAgg2 rfl)<|zOn (i := 4) rfl<|zd (rDivQ hb1) rfl<|z6<|zOn (i := 9) rfl<|zd (rDivQ hb2) rfl<|z6<|zOn (i := 10) rfl<|zd (rHull _ _) rfl<|z6<|zOn (i := 15) rfl<|zd (rDivQ hb1) rfl<|z6<|zOn (i := 20) rfl<|zd (rDivQ hb2) rfl<|z6 ?_
 refine zOn (i := 21) rfl<|zd (rHull _ _) rfl<|z6<|zOn (i := 22) rfl<|zd (rWide _ _) rfl<|z6<|ym<|yv (i := 23) rfl (by kernel_rfl) (by kernel_rfl)<|ze sizeOf75 rfl rfl rfl rfl rfl rfl .head rfl<|z6<|yr (by kernel_rfl)<|zf<|yf rfl ⟨_, .head⟩ isAgg75 sizeOf75 rfl ?_
 rfl
theorem rDiv {a b : Rng} (ha : ok64 a) (na : a.1 ≤ a.2) (nb : b.1 ≤ b.2) : AFun Tryz.prog E 126 [.agg (encZ a), .agg (encZ b)] (.agg (encZ (divQ a b))) := by
 refine zp func126 rfl (by decide) rfl<|za<|z7 rfl<|y7 (cs := _) rfl rfl rfl<|yo (cs := _) rfl rfl rfl rfl<|fun i3 => zq (cs := [.int .i64 0, .int .i64 0]) zeroValue75 rfl rfl<|fun i4 => z6<|za<|za<|yi (γ := Bool) [2, 3, 4] (fun u => [(17, .bool u)]) (fun u => [(i4, .cells 75 [.int .i64 0, .int .i64 0]), (i3, .cells 75 (encZ b))]) (fun u => u = decide (a.1 = m64 ∧ b.1 ≤ -1 ∧ -1 ≤ b.2)) ?_ (fun _ _ h => h) ?_
 ·refine z7 rfl<|z2 (zc underlying75 rfl sizeOf2 (by decide) rfl rfl)<|z2 (zLi isAgg2 rfl)<|z2 (zy rfl rfl)<|z2 (zMb rfl)<|zr (s := 8) rfl (fun c13 => ?_) (fun c13 => ?_)
  ·refine zb rfl rfl c13<|z2 (zt underlying75 rfl sizeOf2 (by decide) rfl rfl)<|zb rfl rfl c13<|z2 (zx (c := .int _ _) isAgg2 rfl ⟨_, (.tail .head)⟩ rfl)<|zb rfl rfl c13<|z2 (Gv.leq rfl rfl)<|z2 (zPt rfl c13 rfl)<|z2 (zMb rfl)<|zr (s := 13) rfl (fun c14 => ?_) (fun c14 => ?_)
   ·refine zb rfl rfl c14<|z2 (zt underlying75 rfl sizeOf2 (by decide) rfl rfl)<|zb rfl rfl c14<|z2 (zx (c := .int _ _) isAgg2 rfl ⟨_, (.tail .head)⟩ rfl)<|zb rfl rfl c14<|z2 (q8 rfl rfl)<|z2 (zPt rfl c14 rfl)<|z6 ?_
    exact ⟨_, zR3, zR1, zLe, by simp_all [m64] <;> omega⟩
   ·refine z8 rfl rfl c14<|z8 rfl rfl c14<|z8 rfl rfl c14<|z2 (zPf rfl c14 rfl)<|z6 ?_
    exact ⟨_, zR3, zR1, zLe, by simp_all [m64] <;> omega⟩
  ·refine z8 rfl rfl c13<|z8 rfl rfl c13<|z8 rfl rfl c13<|z2 (zPf rfl c13 rfl)<|z2 (zMb rfl)<|z8 rfl rfl rfl<|z8 rfl rfl rfl<|z8 rfl rfl rfl<|z2 (zPf rfl rfl rfl)<|z6 ?_
   exact ⟨_, zR3, zR1, zLe, by simp_all [m64] <;> omega⟩
 ·rintro u hu
  subst hu
  refine zn rfl (fun cn => ?_) (fun cn => ?_)
  ·refine za<|z7 rfl<|z2 (y3 (cps := [(0, [_]), (1, [_])]) (rs := [_, _]) pl75 rfl rfl rfl)<|ze sizeOf75 rfl rfl rfl rfl rfl rfl .head rfl<|z6<|zf<|yf rfl ⟨_, .head⟩ isAgg75 sizeOf75 rfl ?_
   rw [divQ, if_pos cn]; try rfl
  ·rw [divQ, if_neg cn]
   have hfit : ∀ {x y : Int}, (x = a.1 ∨ x = a.2) → (b.1 ≤ y ∧ y ≤ b.2) → fitD x y = true := fun hx hy => div_fits na ha cn hx hy
   refine zg<|za<|zm<|za<|yi (γ := Bool) [2, 3, 4] (fun u => [(19, .bool u)]) (fun u => [(i4, .cells 75 [.int .i64 0, .int .i64 0]), (i3, .cells 75 (encZ b))]) (fun u => u = decide (b.1 = 0 ∧ b.2 = 0)) ?_ (fun _ _ h => h) ?_
   ·refine z7 rfl<|z2 (zt underlying75 rfl sizeOf2 (by decide) rfl rfl)<|z2 (zx (c := .int _ _) isAgg2 rfl ⟨_, (.tail .head)⟩ rfl)<|z2 (zy rfl rfl)<|z2 (zMb rfl)<|zr (s := 23) rfl (fun c15 => ?_) (fun c15 => ?_)
    ·refine zb rfl rfl c15<|z2 (zt underlying75 rfl sizeOf2 (by decide) rfl rfl)<|zb rfl rfl c15<|z2 (zx (c := .int _ _) isAgg2 rfl ⟨_, (.tail .head)⟩ rfl)<|zb rfl rfl c15<|z2 (zy rfl rfl)<|z2 (zPt rfl c15 rfl)<|z2 (zAb rfl)<|z6 ?_
     exact ⟨_, zR3, zR1, zLe, by simp_all⟩
    ·refine z8 rfl rfl c15<|z8 rfl rfl c15<|z8 rfl rfl c15<|z2 (zPf rfl c15 rfl)<|z2 (zAb rfl)<|z6 ?_
     exact ⟨_, zR3, zR1, zLe, by simp_all⟩
   ·rintro u hu
    subst hu
    refine zn rfl (fun cz => ?_) (fun cz => ?_)
    ·refine za<|z7 rfl<|z2 (y3 (cps := [(0, [_])]) (rs := [_, .int .i64 0]) pl75 rfl rfl rfl)<|ze sizeOf75 rfl rfl rfl rfl rfl rfl .head rfl<|z6<|zf<|yf rfl ⟨_, .head⟩ isAgg75 sizeOf75 rfl ?_
     rw [if_pos cz]; try rfl
    ·rw [if_neg cz]
     refine za<|z7 rfl<|z2 (zt underlying75 rfl sizeOf2 (by decide) rfl rfl)<|z2 (zx (c := .int _ _) isAgg2 rfl ⟨_, (.tail .head)⟩ rfl)<|z2 (q8 rfl rfl)<|z2 (zAb rfl)<|z6<|zn rfl (fun cp => ?_) (fun cp => ?_)
     ·rw [if_pos cp]
      refine za<|za<|z7 rfl<|z2 (zt underlying75 rfl sizeOf2 (by decide) rfl rfl)<|z2 (zx (c := .int _ _) isAgg2 rfl ⟨_, (.tail .head)⟩ rfl)<|z2 (zy rfl rfl)<|z6<|zn rfl (fun c0 => ?_) (fun c0 => ?_)
      ·refine z7 rfl<|z2 (zt underlying75 rfl sizeOf2 (by decide) rfl rfl)<|q0 (l := [_]) (new := [_, _]) sizeOf2 rfl rfl rfl rfl rfl rfl (.tail .head) rfl rfl<|z6<|za<|z7 rfl<|z2 (zj isAgg75 sizeOf75 rfl rfl)<|z2 (yw isAgg75 sizeOf75 rfl ⟨_, (.tail .head)⟩ rfl)<|zd (rQuo (b := (1, b.2)) ha (show (1 : Int) ≠ 0 by decide) (show b.2 ≠ 0 by omega) (hfit (.inl rfl) (by omega)) (hfit (.inl rfl) (by omega)) (hfit (.inr rfl) (by omega)) (hfit (.inr rfl) (by omega))) rfl<|ze sizeOf75 rfl rfl rfl rfl rfl rfl .head rfl<|z6<|zf<|yf rfl ⟨_, .head⟩ isAgg75 sizeOf75 rfl ?_
       rw [if_pos c0]; try rfl
      ·refine zg<|za<|z7 rfl<|z2 (zj isAgg75 sizeOf75 rfl rfl)<|z2 (yw isAgg75 sizeOf75 rfl ⟨_, (.tail .head)⟩ rfl)<|zd (rQuo ha (show b.1 ≠ 0 by omega) (show b.2 ≠ 0 by omega) (hfit (.inl rfl) (by omega)) (hfit (.inl rfl) (by omega)) (hfit (.inr rfl) (by omega)) (hfit (.inr rfl) (by omega))) rfl<|ze sizeOf75 rfl rfl rfl rfl rfl rfl .head rfl<|z6<|zf<|yf rfl ⟨_, .head⟩ isAgg75 sizeOf75 rfl ?_
       rw [if_neg c0]; try rfl
     ·rw [if_neg cp]
      refine za<|z7 rfl<|z2 (zt underlying75 rfl sizeOf2 (by decide) rfl rfl)<|z2 (zx (c := .int _ _) isAgg2 rfl ⟨_, (.tail .head)⟩ rfl)<|z2 (Gv.leq rfl rfl)<|z2 (zAb rfl)<|z6<|zn rfl (fun cq => ?_) (fun cq => ?_)
      ·rw [if_pos cq]
       refine za<|za<|z7 rfl<|z2 (zt underlying75 rfl sizeOf2 (by decide) rfl rfl)<|z2 (zx (c := .int _ _) isAgg2 rfl ⟨_, (.tail .head)⟩ rfl)<|z2 (zy rfl rfl)<|z6<|zn rfl (fun c0 => ?_) (fun c0 => ?_)
       ·refine z7 rfl<|z2 (zt underlying75 rfl sizeOf2 (by decide) rfl rfl)<|q0 (l := [_]) (new := [_, _]) sizeOf2 rfl rfl rfl rfl rfl rfl (.tail .head) rfl rfl<|z6<|za<|z7 rfl<|z2 (zj isAgg75 sizeOf75 rfl rfl)<|z2 (yw isAgg75 sizeOf75 rfl ⟨_, (.tail .head)⟩ rfl)<|zd (rQuo (b := (b.1, -1)) ha (show b.1 ≠ 0 by omega) (show (-1 : Int) ≠ 0 by decide) (hfit (.inl rfl) (by omega)) (hfit (.inl rfl) (by omega)) (hfit (.inr rfl) (by omega)) (hfit (.inr rfl) (by omega))) rfl<|ze sizeOf75 rfl rfl rfl rfl rfl rfl .head rfl<|z6<|zf<|yf rfl ⟨_, .head⟩ isAgg75 sizeOf75 rfl ?_
        rw [if_pos c0]; try rfl
       ·refine zg<|za<|z7 rfl<|z2 (zj isAgg75 sizeOf75 rfl rfl)<|z2 (yw isAgg75 sizeOf75 rfl ⟨_, (.tail .head)⟩ rfl)<|zd (rQuo ha (show b.1 ≠ 0 by omega) (show b.2 ≠ 0 by omega) (hfit (.inl rfl) (by omega)) (hfit (.inl rfl) (by omega)) (hfit (.inr rfl) (by omega)) (hfit (.inr rfl) (by omega))) rfl<|ze sizeOf75 rfl rfl rfl rfl rfl rfl .head rfl<|z6<|zf<|yf rfl ⟨_, .head⟩ isAgg75 sizeOf75 rfl ?_
        rw [if_neg c0]; try rfl
      ·rw [if_neg cq]
       refine zg<|za<|zw (fun j => Nat.beq j 11) (by kernel_rfl) rfl (zu (.l (.r (.rest _))))<|zTk (i := 0) rfl (zj isAgg75 sizeOf75 rfl rfl)<|zTk (i := 1) rfl (zt underlying75 rfl sizeOf2 (by decide) rfl rfl)<|zTk (i := 2) rfl (zx (c := .int _ _) isAgg2 rfl ⟨_, .head⟩ rfl)<|zTk (i := 3) rfl (y3 (cps := [(0, [_]), (1, [_])]) (rs := [_, _]) pl75 rfl rfl rfl)<|zTk (i := 5) rfl (zj isAgg75 sizeOf75 rfl rfl)<|zTk (i := 6) rfl (zt underlying75 rfl sizeOf2 (by decide) rfl rfl)<|zTk (i := 7) rfl (zx (c := .int _ _) isAgg2 rfl ⟨_, .head⟩ rfl)<|zTk (i := 8) rfl (y3 (cps := [(0, [_]), (1, [_])]) (rs := [_, _]) pl75 rfl rfl rfl)<|zOn (i := 4) rfl<|zd (rQuo (b := (b.1, -1)) ha (show b.1 ≠ 0 by omega) (show (-1 : Int) ≠ 0 by decide) (hfit (.inl rfl) (by omega)) (hfit (.inl rfl) (by omega)) (hfit (.inr rfl) (by omega)) (hfit (.inr rfl) (by omega))) rfl<|z6<|zOn (i := 9) rfl<|zd (rQuo (b := (1, b.2)) ha (show (1 : Int) ≠ 0 by decide) (show b.2 ≠ 0 by omega) (hfit (.inl rfl) (by omega)) (hfit (.inl rfl) (by omega)) (hfit (.inr rfl) (by omega)) (hfit (.inr rfl) (by omega))) rfl<|z6<|zOn (i := 10) rfl<|zd (rWide _ _) rfl<|z6<|ym<|yv (i := 11) rfl (by kernel_rfl) (by kernel_rfl)<|ze sizeOf75 rfl rfl rfl rfl rfl rfl (.tail .head) rfl<|z6<|yr (by kernel_rfl)<|zf<|yf rfl ⟨_, (.tail .head)⟩ isAgg75 sizeOf75 rfl ?_
       rfl
theorem rRem {a b : Rng} (hb : ok64 b) : AFun Tryz.prog E 127 [.agg (encZ a), .agg (encZ b)] (.agg (encZ (remQ a b))) := by
 refine zp func127 rfl (by decide) rfl<|za<|z7 rfl<|y7 (cs := _) rfl rfl rfl<|y7 (cs := _) rfl rfl rfl<|zq (cs := [.int .i64 0, .int .i64 0]) zeroValue75 rfl rfl<|fun i4 => z6<|za<|za<|yi (γ := Bool) [2, 3, 4] (fun u => [(17, .bool u)]) (fun u => [(i4, .cells 75 [.int .i64 0, .int .i64 0])]) (fun u => u = decide (b.1 = 0 ∧ b.2 = 0)) ?_ (fun _ _ h => h) ?_
 ·refine z7 rfl<|z2 (zc underlying75 rfl sizeOf2 (by decide) rfl rfl)<|z2 (zLi isAgg2 rfl)<|z2 (zy rfl rfl)<|z2 (zMb rfl)<|zr (s := 13) rfl (fun c16 => ?_) (fun c16 => ?_)
  ·refine zb rfl rfl c16<|z2 (zc underlying75 rfl sizeOf2 (by decide) rfl rfl)<|zb rfl rfl c16<|z2 (zLi isAgg2 rfl)<|zb rfl rfl c16<|z2 (zy rfl rfl)<|z2 (zPt rfl c16 rfl)<|z6 ?_
   exact ⟨_, zR3, zR1, zLe, by simp_all⟩
  ·refine z8 rfl rfl c16<|z8 rfl rfl c16<|z8 rfl rfl c16<|z2 (zPf rfl c16 rfl)<|z6 ?_
   exact ⟨_, zR3, zR1, zLe, by simp_all⟩
 ·rintro u hu
  subst hu
  refine zn rfl (fun cn => ?_) (fun cn => ?_)
  ·refine za<|z7 rfl<|z2 (y3 (cps := [(0, [_])]) (rs := [_, .int .i64 0]) pl75 rfl rfl rfl)<|ze sizeOf75 rfl rfl rfl rfl rfl rfl .head rfl<|z6<|zf<|yf rfl ⟨_, .head⟩ isAgg75 sizeOf75 rfl ?_
   rw [remQ, if_pos cn]; try rfl
  ·have hfar := far_rng hb cn
   rw [remQ, if_neg cn]
   refine zg<|za<|zw (fun j => false) (by kernel_rfl) rfl (zu (.rest _))<|zTk (i := 0) rfl (zc underlying75 rfl sizeOf2 (by decide) rfl rfl)<|zTk (i := 1) rfl (zLi isAgg2 rfl)<|zTk (i := 2) rfl (qb underlying2 underlying232 rfl)<|zTk (i := 3) rfl (zc underlying75 rfl sizeOf2 (by decide) rfl rfl)<|zTk (i := 4) rfl (zLi isAgg2 rfl)<|zTk (i := 5) rfl (qb underlying2 underlying232 rfl)<|zTk (i := 6) rfl (zAi rfl)<|zTk (i := 7) rfl (zAi rfl)<|zDn<|za<|za<|z7 rfl<|z2 (zc underlying75 rfl sizeOf2 (by decide) rfl rfl)<|z2 (zLi isAgg2 rfl)<|z2 (yc rfl rfl)<|z6<|yi (γ := Int) [2, 3, 4, 6] (fun u => [(5, .int .u64 u)]) (fun u => [(i4, .cells 75 [.int .i64 0, .int .i64 0])]) (fun u => u = (b.1.natAbs : Int)) ?_ (fun _ _ h => h) ?_
   ·refine zn rfl (fun c => ?_) (fun c => ?_)
    ·refine z7 rfl<|z2 (zMi rfl)<|z2 (Gv.neg rfl)<|z2 (zAi rfl)<|z6 ?_
     exact ⟨_, zR4, zR1, zLe, by have := abs_wrap hb.1; rwa [if_pos c] at this⟩
    ·refine zg ?_
     exact ⟨_, zR4, zR1, zLe, by have := abs_wrap hb.1; rwa [if_neg c] at this⟩
   ·rintro u hu
    subst hu
    refine za<|za<|z7 rfl<|z2 (zc underlying75 rfl sizeOf2 (by decide) rfl rfl)<|z2 (zLi isAgg2 rfl)<|z2 (yc rfl rfl)<|z6<|yi (γ := Int) [2, 4, 5] (fun u => [(6, .int .u64 u)]) (fun u => [(i4, .cells 75 [.int .i64 0, .int .i64 0])]) (fun u => u = (b.2.natAbs : Int)) ?_ (fun _ _ h => h) ?_
    ·refine zn rfl (fun c => ?_) (fun c => ?_)
     ·refine z7 rfl<|z2 (zMi rfl)<|z2 (Gv.neg rfl)<|z2 (zAi rfl)<|z6 ?_
      exact ⟨_, zR3, zR1, zLe, by have := abs_wrap hb.2; rwa [if_pos c] at this⟩
     ·refine zg ?_
      exact ⟨_, zR3, zR1, zLe, by have := abs_wrap hb.2; rwa [if_neg c] at this⟩
    ·rintro u hu
     subst hu
     refine za<|za<|z7 rfl<|z2 (zMi rfl)<|z2 (zMi rfl)<|z2 (yx rfl rfl)<|z6<|yi (γ := Int) [2, 4] (fun u => [(5, .int .u64 u)]) (fun u => [(i4, .cells 75 [.int .i64 0, .int .i64 0])]) (fun u => u = (if (b.1.natAbs : Int) < (b.2.natAbs : Int) then (b.2.natAbs : Int) else (b.1.natAbs : Int))) ?_ (fun _ _ h => h) ?_
     ·refine zn rfl (fun c => ?_) (fun c => ?_)
      ·refine z7 rfl<|z2 (zMi rfl)<|z2 (zAi rfl)<|z6 ?_
       exact ⟨_, zR2, zR1, zLe, by rw [if_pos c]⟩
      ·refine zg ?_
       exact ⟨_, zR2, zR1, zLe, by rw [if_neg c]⟩
     ·rintro u hu
      subst hu
      refine za<|yi (γ := Int) [2, 4] (fun k => [(7, .int .i64 k)]) (fun k => [(i4, .cells 75 [.int .i64 0, .int .i64 0])]) (fun k => k = far b) ?_ (fun _ _ h => h) ?_
      ·refine z7 rfl<|z2 (zMi rfl)<|z2 (Gv.subW rfl rfl)<|z2 (qb underlying232 underlying2 rfl)<|z2 (zAi rfl)<|z6 ?_
       exact ⟨_, zR2, zR1, zLe, far_wrap hb cn⟩
      ·rintro k hk
       subst hk
       refine za<|z7 rfl<|z2 (zAi rfl)<|z2 (zAi rfl)<|z6<|za<|za<|z7 rfl<|z2 (zc underlying75 rfl sizeOf2 (by decide) rfl rfl)<|z2 (zLi isAgg2 rfl)<|z2 (yc rfl rfl)<|z6<|yi (γ := Int) [2, 4, 7, 9] (fun x => [(8, .int .i64 x)]) (fun x => [(i4, .cells 75 [.int .i64 0, .int .i64 0])]) (fun x => x = if a.1 < 0 then imax (-(far b)) a.1 else 0) ?_ (fun _ _ h => h) ?_
       ·have hneg : IntKind.i64.wrap (0 - far b) = -(far b) := by rw [wrap_fit (by unfold is64; omega)]; omega
        refine zn rfl (fun c1 => ?_) (fun c1 => ?_)
        ·refine za<|z7 rfl<|z2 (zMi rfl)<|z2 (Gv.neg rfl)<|z2 (zAi rfl)<|z6<|za<|z7 rfl<|z2 (zc underlying75 rfl sizeOf2 (by decide) rfl rfl)<|z2 (zLi isAgg2 rfl)<|z2 (zMi rfl)<|z2 (yx rfl rfl)<|z6<|zn rfl (fun c2 => ?_) (fun c2 => ?_)
         ·refine z7 rfl<|z2 (zc underlying75 rfl sizeOf2 (by decide) rfl rfl)<|z2 (zLi isAgg2 rfl)<|z2 (zAi rfl)<|z6 ?_
          exact ⟨_, zR4, zR1, zLe, by rw [if_pos c1, imax, if_pos (by omega)]⟩
         ·refine zg ?_
          exact ⟨_, zR4, zR1, zLe, by rw [if_pos c1, imax, if_neg (by omega)]; exact hneg⟩
        ·refine zg ?_
         exact ⟨_, zR4, zR1, zLe, by rw [if_neg c1]⟩
       ·rintro x hx
        rw [← hx]
        refine za<|za<|z7 rfl<|z2 (zc underlying75 rfl sizeOf2 (by decide) rfl rfl)<|z2 (zLi isAgg2 rfl)<|z2 (yx rfl rfl)<|z6<|yi (γ := Int) [4, 8] (fun y => [(9, .int .i64 y)]) (fun y => [(i4, .cells 75 [.int .i64 0, .int .i64 0])]) (fun y => y = if 0 < a.2 then imin (far b) a.2 else 0) ?_ (fun _ _ h => h) ?_
        ·refine zn rfl (fun c1 => ?_) (fun c1 => ?_)
         ·refine za<|z7 rfl<|z2 (zMi rfl)<|z2 (zAi rfl)<|z6<|za<|z7 rfl<|z2 (zc underlying75 rfl sizeOf2 (by decide) rfl rfl)<|z2 (zLi isAgg2 rfl)<|z2 (zMi rfl)<|z2 (yc rfl rfl)<|z6<|zn rfl (fun c2 => ?_) (fun c2 => ?_)
          ·refine z7 rfl<|z2 (zc underlying75 rfl sizeOf2 (by decide) rfl rfl)<|z2 (zLi isAgg2 rfl)<|z2 (zAi rfl)<|z6 ?_
           exact ⟨_, zR2, zR1, zLe, by rw [if_pos c1, imin, if_pos c2]⟩
          ·refine zg ?_
           exact ⟨_, zR2, zR1, zLe, by rw [if_pos c1, imin, if_neg c2]⟩
         ·refine zg ?_
          exact ⟨_, zR2, zR1, zLe, by rw [if_neg c1]⟩
        ·rintro y hy
         rw [← hy]
         refine za<|z7 rfl<|z2 (zMi rfl)<|z2 (zMi rfl)<|z2 (y3 (cps := [(0, [_]), (1, [_])]) (rs := [_, _]) pl75 rfl rfl rfl)<|ze sizeOf75 rfl rfl rfl rfl rfl rfl .head rfl<|z6<|zf<|yf rfl ⟨_, .head⟩ isAgg75 sizeOf75 rfl ?_
         rfl
theorem rCut (num : Int) {a b : Rng} (hb : ok64 b) : AFun Tryz.prog E 129 [.int .i64 num, .agg (encZ a), .agg (encZ b)] (.agg (encZ (cutQ num a b))) := by
 have hb1 := hb.1; have hb2 := hb.2
 unfold is64 at hb1 hb2
 have hm : m64 = -9223372036854775808 := rfl
 have hM : M64 = 9223372036854775807 := rfl
 rw [cutQ]
 refine zp func129 rfl (by decide) rfl<|za<|z7 rfl<|y7 (cs := _) rfl rfl rfl<|y7 (cs := _) rfl rfl rfl<|zq (cs := [.int .i64 0, .int .i64 0]) zeroValue75 rfl rfl<|fun i6 => z6<|za<|za<|z7 rfl<|z2 (zMi rfl)<|z6<|zm<|za<|z7 rfl<|z2 (zy rfl rfl)<|z2 (zAb rfl)<|z6<|zn rfl (fun c0 => ?_) (fun c0 => ?_)
 ·refine za<|za<|z7 rfl<|z2 (zc underlying75 rfl sizeOf2 (by decide) rfl rfl)<|z2 (zLi isAgg2 rfl)<|z2 (zy rfl rfl)<|z6<|zn rfl (fun cm => ?_) (fun cm => ?_)
  ·refine za<|z7 rfl<|zd (rNone) rfl<|ze sizeOf75 rfl rfl rfl rfl rfl rfl .head rfl<|z6<|zf<|yf rfl ⟨_, .head⟩ isAgg75 sizeOf75 rfl ?_
   rw [if_pos c0, if_pos (show b.2 = m64 from cm)]; try rfl
  ·refine zg<|za<|z7 rfl<|z2 (zj isAgg75 sizeOf75 rfl rfl)<|z2 (zc underlying75 rfl sizeOf2 (by decide) rfl rfl)<|z2 (zLi isAgg2 rfl)<|z2 (Gv.sub rfl rfl (by unfold I64; omega))<|z2 (y3 (cps := [(0, [_]), (1, [_])]) (rs := [_, _]) pl75 rfl rfl rfl)<|zd (rMeet_s a (m64, b.2 - 1)) rfl<|ze sizeOf75 rfl rfl rfl rfl rfl rfl .head rfl<|z6<|zf<|yf rfl ⟨_, .head⟩ isAgg75 sizeOf75 rfl ?_
   rw [if_pos c0, if_neg (show ¬ b.2 = m64 from cm)]; try rfl
 ·rw [if_neg c0]
  refine za<|z7 rfl<|z2 (zy rfl rfl)<|z2 (zAb rfl)<|z6<|zn rfl (fun c1 => ?_) (fun c1 => ?_)
  ·refine za<|z7 rfl<|z2 (zj isAgg75 sizeOf75 rfl rfl)<|z2 (zc underlying75 rfl sizeOf2 (by decide) rfl rfl)<|z2 (zLi isAgg2 rfl)<|z2 (y3 (cps := [(0, [_]), (1, [_])]) (rs := [_, _]) pl75 rfl rfl rfl)<|zd (rMeet_s a (m64, b.2)) rfl<|ze sizeOf75 rfl rfl rfl rfl rfl rfl .head rfl<|z6<|zf<|yf rfl ⟨_, .head⟩ isAgg75 sizeOf75 rfl ?_
   rw [if_pos c1]; try rfl
  ·rw [if_neg c1]
   refine za<|z7 rfl<|z2 (zy rfl rfl)<|z2 (zAb rfl)<|z6<|zn rfl (fun c2 => ?_) (fun c2 => ?_)
   ·refine za<|z7 rfl<|z2 (zj isAgg75 sizeOf75 rfl rfl)<|z2 (zj isAgg75 sizeOf75 rfl rfl)<|zd (rMeet_s a b) rfl<|ze sizeOf75 rfl rfl rfl rfl rfl rfl .head rfl<|z6<|zf<|yf rfl ⟨_, .head⟩ isAgg75 sizeOf75 rfl ?_
    rw [if_pos c2]; try rfl
   ·rw [if_neg c2]
    refine za<|z7 rfl<|z2 (zy rfl rfl)<|z2 (zAb rfl)<|z6<|zn rfl (fun c3 => ?_) (fun c3 => ?_)
    ·refine za<|z7 rfl<|z2 (zj isAgg75 sizeOf75 rfl rfl)<|z2 (zc underlying75 rfl sizeOf2 (by decide) rfl rfl)<|z2 (zLi isAgg2 rfl)<|z2 (y3 (cps := [(0, [_]), (1, [_])]) (rs := [_, _]) pl75 rfl rfl rfl)<|zd (rMeet_s a (b.1, M64)) rfl<|ze sizeOf75 rfl rfl rfl rfl rfl rfl .head rfl<|z6<|zf<|yf rfl ⟨_, .head⟩ isAgg75 sizeOf75 rfl ?_
     rw [if_pos c3]; try rfl
    ·rw [if_neg c3]
     refine za<|z7 rfl<|z2 (zy rfl rfl)<|z2 (zAb rfl)<|z6<|zn rfl (fun c4 => ?_) (fun c4 => ?_)
     ·refine za<|za<|z7 rfl<|z2 (zc underlying75 rfl sizeOf2 (by decide) rfl rfl)<|z2 (zLi isAgg2 rfl)<|z2 (zy rfl rfl)<|z6<|zn rfl (fun cm => ?_) (fun cm => ?_)
      ·refine za<|z7 rfl<|zd (rNone) rfl<|ze sizeOf75 rfl rfl rfl rfl rfl rfl .head rfl<|z6<|zf<|yf rfl ⟨_, .head⟩ isAgg75 sizeOf75 rfl ?_
       rw [if_pos c4, if_pos (show b.1 = M64 from cm)]; try rfl
      ·refine zg<|za<|z7 rfl<|z2 (zj isAgg75 sizeOf75 rfl rfl)<|z2 (zc underlying75 rfl sizeOf2 (by decide) rfl rfl)<|z2 (zLi isAgg2 rfl)<|z2 (yd rfl rfl (by unfold I64; omega))<|z2 (y3 (cps := [(0, [_]), (1, [_])]) (rs := [_, _]) pl75 rfl rfl rfl)<|zd (rMeet_s a (b.1 + 1, M64)) rfl<|ze sizeOf75 rfl rfl rfl rfl rfl rfl .head rfl<|z6<|zf<|yf rfl ⟨_, .head⟩ isAgg75 sizeOf75 rfl ?_
       rw [if_pos c4, if_neg (show ¬ b.1 = M64 from cm)]; try rfl
     ·refine zg<|za<|z7 rfl<|z2 (zj isAgg75 sizeOf75 rfl rfl)<|ze sizeOf75 rfl rfl rfl rfl rfl rfl .head rfl<|z6<|zf<|yf rfl ⟨_, .head⟩ isAgg75 sizeOf75 rfl ?_
      rw [if_neg c4]; try rfl
end Go.Proofs.YtjnpcfpecilejaaGreatDoor
