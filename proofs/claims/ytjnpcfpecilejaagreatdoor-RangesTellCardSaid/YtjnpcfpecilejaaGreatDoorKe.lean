/- The document's ranges. Of int64s. -/
import Derived.Test.YtjnpcfpecilejaaGreatDoorKd
set_option linter.unusedVariables false
set_option linter.unusedSimpArgs false
set_option linter.unusedSectionVars false
namespace Go.Proofs.YtjnpcfpecilejaaGreatDoor
open Go.Proofs.Tryz
open Go.Proofs
theorem pl75 : Places prog 75 #[(0, 1), (1, 1)] [.int .i64 0, .int .i64 0] := ⟨_, _, underlying75, zeroValue75, fun w => by kernel_rfl, rfl⟩
variable {E : World}
set_option maxRecDepth 20000
theorem eq_rrange (a b c d : Int) (w : World) : (Op.equalIn 10000 75 (.agg [.int .i64 a, .int .i64 b].toArray) (.agg [.int .i64 c, .int .i64 d].toArray)).run prog w = .ok (decide (a = c ∧ b = d)) w := by
 have hS : prog.underlying 75 = some (.struct (prog.fieldsOf 75)) := by kernel_rfl
 have hp : prog.stoodInHeld 75 = false := by kernel_rfl
 rw [show (10000 : Nat) = 9999 + 1 from rfl, run_equalIn_agg w 9999 _ _ _ hS hp]
 simp only [Program.fieldsOf, underlying75]
 simp [Op.eqFields, part, isAgg2, run_equalIn_int, underlying2]
 by_cases h1 : a = c <;> by_cases h2 : b = d <;> simp [h1, h2]
theorem rNone : AFun prog E 38 [] (.agg (encZ noR)) := by
 refine zn func38 rfl (by decide) rfl<|zSr<|zo (cs := [.int .i64 0, .int .i64 0]) zeroValue75 rfl rfl<|fun i0 => z6<|zSr<|z2 (zx (cps := [(0, [_]), (1, [_])]) (rs := [_, _]) pl75 rfl rfl rfl)<|zc sizeOf75 rfl rfl rfl rfl rfl rfl .head rfl<|z6<|zd<|y8 rfl ⟨_, .head⟩ isAgg75 sizeOf75 rfl ?_
 rfl
theorem rType_s {t : Int} (ht : 0 ≤ t ∧ t ≤ 2) : AFun prog E 61 [.int .i64 t] (.agg (encZ (rType t))) := by
 refine zn func61 rfl (by decide) rfl<|zSr<|zo (cs := [.int .i64 0, .int .i64 0]) zeroValue75 rfl rfl<|fun i2 => z6<|za<|zSr<|z2 (zMi rfl)<|z6<|zi<|zSr<|z2 (zw rfl rfl)<|z2 (zAb rfl)<|z6<|zl rfl (fun c1=>?_) (fun c1=>?_)
 ·refine zSr<|z2 (zx (cps := [(1, [_])]) (rs := [.int .i64 0, _]) pl75 rfl rfl rfl)<|zc sizeOf75 rfl rfl rfl rfl rfl rfl .head rfl<|z6<|zd<|y8 rfl ⟨_, .head⟩ isAgg75 sizeOf75 rfl ?_
  rw [c1]; try rfl
 ·refine zSr<|z2 (zw rfl rfl)<|z2 (zAb rfl)<|z6<|zl rfl (fun c2=>?_) (fun c2=>?_)
  ·refine zSr<|z2 (zx (cps := [(1, [_])]) (rs := [.int .i64 0, _]) pl75 rfl rfl rfl)<|zc sizeOf75 rfl rfl rfl rfl rfl rfl .head rfl<|z6<|zd<|y8 rfl ⟨_, .head⟩ isAgg75 sizeOf75 rfl ?_
   rw [c2]; try rfl
  ·refine zf<|zSr<|z2 (zx (cps := [(0, [_]), (1, [_])]) (rs := [_, _]) pl75 rfl rfl rfl)<|zc sizeOf75 rfl rfl rfl rfl rfl rfl .head rfl<|z6<|zd<|y8 rfl ⟨_, .head⟩ isAgg75 sizeOf75 rfl ?_
   rw [show t = 0 by omega]; try rfl
theorem rMeet_s (a b : Rng) : AFun prog E 60 [.agg (encZ a), .agg (encZ b)] (.agg (encZ (rMeet a b))) := by
 refine zn func60 rfl (by decide) rfl<|zSr<|yj (cs := _) rfl rfl rfl rfl<|fun i2 => y1 (cs := _) rfl rfl rfl<|zo (cs := [.int .i64 0, .int .i64 0]) zeroValue75 rfl rfl<|fun i4 => z6<|za<|zSr<|z2 (zFF underlying75 rfl sizeOf2 rfl rfl)<|z2 (zLi isAgg2 rfl)<|z2 (zq underlying75 rfl sizeOf2 (by decide) rfl rfl)<|z2 (zu (c := .int _ _) isAgg2 rfl ⟨_, .t1⟩ rfl)<|z2 (yq rfl rfl)<|z6<|yb (γ := Int) [2, 3, 4] (fun x => []) (fun x => [(i4, .cells 75 [.int .i64 0, .int .i64 0]), (i2, .cells 75 [.int .i64 x, .int .i64 a.2])]) (fun x => x = imax a.1 b.1) ?_ (fun _ _ h => h) ?_
 ·refine zl rfl (fun c=>?_) (fun c=>?_)
  ·refine zRg<|z2 (zFF underlying75 rfl sizeOf2 rfl rfl)<|z2 (zLi isAgg2 rfl)<|z2 (zq underlying75 rfl sizeOf2 (by decide) rfl rfl)<|yu (l := [_]) (new := [_, _]) sizeOf2 rfl rfl rfl rfl rfl rfl .t1 rfl rfl<|z6 ?_
   exact ⟨b.1, zR3, trivial, zLe, by rw [imax, if_pos c]⟩
  ·refine zf ?_
   exact ⟨a.1, zR3, trivial, zLe, by rw [imax, if_neg c]⟩
 ·rintro x hx
  refine za<|zSr<|z2 (zFF underlying75 rfl sizeOf2 rfl rfl)<|z2 (zLi isAgg2 rfl)<|z2 (zq underlying75 rfl sizeOf2 (by decide) rfl rfl)<|z2 (zu (c := .int _ _) isAgg2 rfl ⟨_, .t1⟩ rfl)<|z2 (y7 rfl rfl)<|z6<|yb (γ := Int) [2, 4] (fun y => []) (fun y => [(i4, .cells 75 [.int .i64 0, .int .i64 0]), (i2, .cells 75 [.int .i64 x, .int .i64 y])]) (fun y => y = imin a.2 b.2) ?_ (fun _ _ h => h) ?_
  ·refine zl rfl (fun c=>?_) (fun c=>?_)
   ·refine zRg<|z2 (zFF underlying75 rfl sizeOf2 rfl rfl)<|z2 (zLi isAgg2 rfl)<|z2 (zq underlying75 rfl sizeOf2 (by decide) rfl rfl)<|yu (l := [_]) (new := [_, _]) sizeOf2 rfl rfl rfl rfl rfl rfl .t1 rfl rfl<|z6 ?_
    exact ⟨b.2, zR2, trivial, zLe, by rw [imin, if_pos c]⟩
   ·refine zf ?_
    exact ⟨a.2, zR2, trivial, zLe, by rw [imin, if_neg c]⟩
  ·rintro y hy
   rw [rMeet, ← hx, ← hy, rMade]
   refine za<|zSr<|z2 (zq underlying75 rfl sizeOf2 (by decide) rfl rfl)<|z2 (zu (c := .int _ _) isAgg2 rfl ⟨_, .t1⟩ rfl)<|z2 (zq underlying75 rfl sizeOf2 (by decide) rfl rfl)<|z2 (zu (c := .int _ _) isAgg2 rfl ⟨_, .t1⟩ rfl)<|z2 (yq rfl rfl)<|z6<|zl rfl (fun c=>?_) (fun c=>?_)
   ·refine zSr<|zb (rNone) rfl<|zc sizeOf75 rfl rfl rfl rfl rfl rfl .head rfl<|z6<|zd<|y8 rfl ⟨_, .head⟩ isAgg75 sizeOf75 rfl ?_
    rw [if_pos c]; try rfl
   ·refine zf<|zSr<|z2 (yp isAgg75 sizeOf75 rfl ⟨_, .t1⟩ rfl)<|zc sizeOf75 rfl rfl rfl rfl rfl rfl .head rfl<|z6<|zd<|y8 rfl ⟨_, .head⟩ isAgg75 sizeOf75 rfl ?_
    rw [if_neg c]; try rfl
theorem rJoin_s (a b : Rng) : AFun prog E 71 [.agg (encZ a), .agg (encZ b)] (.agg (encZ (rJoin a b))) := by
 rw [← qJoin_eq]
 refine zn func71 rfl (by decide) rfl<|zSr<|yj (cs := _) rfl rfl rfl rfl<|fun i2 => yj (cs := _) rfl rfl rfl rfl<|fun i3 => zo (cs := [.int .i64 0, .int .i64 0]) zeroValue75 rfl rfl<|fun i4 => z6<|za<|zSr<|z2 (zq underlying75 rfl sizeOf2 (by decide) rfl rfl)<|z2 (zu (c := .int _ _) isAgg2 rfl ⟨_, .t2⟩ rfl)<|z2 (zq underlying75 rfl sizeOf2 (by decide) rfl rfl)<|z2 (zu (c := .int _ _) isAgg2 rfl ⟨_, .t2⟩ rfl)<|z2 (yq rfl rfl)<|z6<|yb (γ := Rng) [2, 3, 4] (fun p => []) (fun p => [(i4, .cells 75 [.int .i64 0, .int .i64 0]), (i3, .cells 75 (encZ b)), (i2, .cells 75 (encZ p))]) (fun p => p = if a.2 < a.1 then b else a) ?_ (fun _ _ h => h) ?_
 ·refine zl rfl (fun c=>?_) (fun c=>?_)
  ·refine zRg<|z2 (yp isAgg75 sizeOf75 rfl ⟨_, .t1⟩ rfl)<|zc sizeOf75 rfl rfl rfl rfl rfl rfl .t2 rfl<|z6 ?_
   exact ⟨b, zR3, trivial, zLe, by rw [if_pos c]⟩
  ·refine zf ?_
   exact ⟨a, zR3, trivial, zLe, by rw [if_neg c]⟩
 ·rintro p hp
  refine za<|zSr<|z2 (zq underlying75 rfl sizeOf2 (by decide) rfl rfl)<|z2 (zu (c := .int _ _) isAgg2 rfl ⟨_, .t1⟩ rfl)<|z2 (zq underlying75 rfl sizeOf2 (by decide) rfl rfl)<|z2 (zu (c := .int _ _) isAgg2 rfl ⟨_, .t1⟩ rfl)<|z2 (yq rfl rfl)<|z6<|yb (γ := Rng) [2, 3, 4] (fun q => []) (fun q => [(i4, .cells 75 [.int .i64 0, .int .i64 0]), (i3, .cells 75 (encZ q)), (i2, .cells 75 (encZ p))]) (fun q => q = if b.2 < b.1 then p else b) ?_ (fun _ _ h => h) ?_
  ·refine zl rfl (fun c=>?_) (fun c=>?_)
   ·refine zRg<|z2 (yp isAgg75 sizeOf75 rfl ⟨_, .t2⟩ rfl)<|zc sizeOf75 rfl rfl rfl rfl rfl rfl .t1 rfl<|z6 ?_
    exact ⟨p, zR3, trivial, zLe, by rw [if_pos c]⟩
   ·refine zf ?_
    exact ⟨b, zR3, trivial, zLe, by rw [if_neg c]⟩
  ·rintro q hq
   refine za<|zSr<|z2 (zq underlying75 rfl sizeOf2 (by decide) rfl rfl)<|z2 (zu (c := .int _ _) isAgg2 rfl ⟨_, .t1⟩ rfl)<|z2 (zq underlying75 rfl sizeOf2 (by decide) rfl rfl)<|z2 (zu (c := .int _ _) isAgg2 rfl ⟨_, .t2⟩ rfl)<|z2 (y7 rfl rfl)<|z6<|yb (γ := Int) [2, 3, 4] (fun x => []) (fun x => [(i4, .cells 75 [.int .i64 0, .int .i64 0]), (i3, .cells 75 (encZ q)), (i2, .cells 75 [.int .i64 x, .int .i64 p.2])]) (fun x => x = if q.1 < p.1 then q.1 else p.1) ?_ (fun _ _ h => h) ?_
   ·refine zl rfl (fun c=>?_) (fun c=>?_)
    ·refine zRg<|z2 (zq underlying75 rfl sizeOf2 (by decide) rfl rfl)<|z2 (zu (c := .int _ _) isAgg2 rfl ⟨_, .t1⟩ rfl)<|z2 (zq underlying75 rfl sizeOf2 (by decide) rfl rfl)<|yu (l := [_]) (new := [_, _]) sizeOf2 rfl rfl rfl rfl rfl rfl .t2 rfl rfl<|z6 ?_
     exact ⟨q.1, zR3, trivial, zLe, by rw [if_pos c]⟩
    ·refine zf ?_
     exact ⟨p.1, zR3, trivial, zLe, by rw [if_neg c]⟩
   ·rintro x hx
    refine za<|zSr<|z2 (zq underlying75 rfl sizeOf2 (by decide) rfl rfl)<|z2 (zu (c := .int _ _) isAgg2 rfl ⟨_, .t1⟩ rfl)<|z2 (zq underlying75 rfl sizeOf2 (by decide) rfl rfl)<|z2 (zu (c := .int _ _) isAgg2 rfl ⟨_, .t2⟩ rfl)<|z2 (yq rfl rfl)<|z6<|yb (γ := Int) [2, 4] (fun y => []) (fun y => [(i4, .cells 75 [.int .i64 0, .int .i64 0]), (i3, .cells 75 (encZ q)), (i2, .cells 75 [.int .i64 x, .int .i64 y])]) (fun y => y = if p.2 < q.2 then q.2 else p.2) ?_ (fun _ _ h => h) ?_
    ·refine zl rfl (fun c=>?_) (fun c=>?_)
     ·refine zRg<|z2 (zq underlying75 rfl sizeOf2 (by decide) rfl rfl)<|z2 (zu (c := .int _ _) isAgg2 rfl ⟨_, .t1⟩ rfl)<|z2 (zq underlying75 rfl sizeOf2 (by decide) rfl rfl)<|yu (l := [_]) (new := [_, _]) sizeOf2 rfl rfl rfl rfl rfl rfl .t2 rfl rfl<|z6 ?_
      exact ⟨q.2, zR2, trivial, zLe, by rw [if_pos c]⟩
     ·refine zf ?_
      exact ⟨p.2, zR2, trivial, zLe, by rw [if_neg c]⟩
    ·rintro y hy
     have hqj : qJoin a b = if y < x then noR else (x, y) := by subst hx hy hq hp; rfl
     rw [hqj]
     refine za<|zSr<|z2 (zq underlying75 rfl sizeOf2 (by decide) rfl rfl)<|z2 (zu (c := .int _ _) isAgg2 rfl ⟨_, .t2⟩ rfl)<|z2 (zq underlying75 rfl sizeOf2 (by decide) rfl rfl)<|z2 (zu (c := .int _ _) isAgg2 rfl ⟨_, .t2⟩ rfl)<|z2 (yq rfl rfl)<|z6<|zl rfl (fun c=>?_) (fun c=>?_)
     ·refine zSr<|zb (rNone) rfl<|zc sizeOf75 rfl rfl rfl rfl rfl rfl .head rfl<|z6<|zd<|y8 rfl ⟨_, .head⟩ isAgg75 sizeOf75 rfl ?_
      rw [if_pos c]; try rfl
     ·refine zf<|zSr<|z2 (yp isAgg75 sizeOf75 rfl ⟨_, .t2⟩ rfl)<|zc sizeOf75 rfl rfl rfl rfl rfl rfl .head rfl<|z6<|zd<|y8 rfl ⟨_, .head⟩ isAgg75 sizeOf75 rfl ?_
      rw [if_neg c]; try rfl
theorem rTruth (no yes : Bool) : AFun prog E 128 [.bool no, .bool yes] (.agg (encZ (truQ no yes))) := by
 refine zn func128 rfl (by decide) rfl<|zSr<|zo (cs := [.int .i64 0, .int .i64 0]) zeroValue75 rfl rfl<|fun i4 => z6<|zSr<|z2 (zx (cps := [(0, [_]), (1, [_])]) (rs := [_, _]) pl75 rfl rfl rfl)<|zo (cs := [.int .i64 0, .int .i64 0]) zeroValue75 rfl rfl<|fun i5 => zc sizeOf75 rfl rfl rfl rfl rfl rfl .head rfl<|z6<|za<|zSr<|z2 (zMb rfl)<|z2 (yg rfl)<|z6<|zy rfl (fun c1=>?_) (fun c1=>?_)
 ·refine zRg<|z2 (zq underlying75 rfl sizeOf2 (by decide) rfl rfl)<|yu (l := [_]) (new := [_, _]) sizeOf2 rfl rfl rfl rfl rfl rfl .head rfl rfl<|z6<|za<|zSr<|z2 (zMb rfl)<|z2 (yg rfl)<|z6<|zy rfl (fun c2=>?_) (fun c2=>?_)
  ·refine zRg<|z2 (zq underlying75 rfl sizeOf2 (by decide) rfl rfl)<|yu (l := [_]) (new := [_, _]) sizeOf2 rfl rfl rfl rfl rfl rfl .head rfl rfl<|z6<|zSr<|z2 (yp isAgg75 sizeOf75 rfl ⟨_, .head⟩ rfl)<|zc sizeOf75 rfl rfl rfl rfl rfl rfl .t1 rfl<|z6<|zd<|y8 rfl ⟨_, .t1⟩ isAgg75 sizeOf75 rfl ?_
   rw [show no = false by simpa using c1, show yes = false by simpa using c2]; try rfl
  ·refine zf<|zSr<|z2 (yp isAgg75 sizeOf75 rfl ⟨_, .head⟩ rfl)<|zc sizeOf75 rfl rfl rfl rfl rfl rfl .t1 rfl<|z6<|zd<|y8 rfl ⟨_, .t1⟩ isAgg75 sizeOf75 rfl ?_
   rw [show no = false by simpa using c1, show yes = true by simpa using c2]; try rfl
 ·refine zf<|za<|zSr<|z2 (zMb rfl)<|z2 (yg rfl)<|z6<|zy rfl (fun c2=>?_) (fun c2=>?_)
  ·refine zRg<|z2 (zq underlying75 rfl sizeOf2 (by decide) rfl rfl)<|yu (l := [_]) (new := [_, _]) sizeOf2 rfl rfl rfl rfl rfl rfl .head rfl rfl<|z6<|zSr<|z2 (yp isAgg75 sizeOf75 rfl ⟨_, .head⟩ rfl)<|zc sizeOf75 rfl rfl rfl rfl rfl rfl .t1 rfl<|z6<|zd<|y8 rfl ⟨_, .t1⟩ isAgg75 sizeOf75 rfl ?_
   rw [show no = true by simpa using c1, show yes = false by simpa using c2]; try rfl
  ·refine zf<|zSr<|z2 (yp isAgg75 sizeOf75 rfl ⟨_, .head⟩ rfl)<|zc sizeOf75 rfl rfl rfl rfl rfl rfl .t1 rfl<|z6<|zd<|y8 rfl ⟨_, .t1⟩ isAgg75 sizeOf75 rfl ?_
   rw [show no = true by simpa using c1, show yes = true by simpa using c2]; try rfl
theorem rWide (a b : Rng) : AFun prog E 182 [.agg (encZ a), .agg (encZ b)] (.agg (encZ (wideQ a b))) := by
 refine zn func182 rfl (by decide) rfl<|zSr<|yj (cs := _) rfl rfl rfl rfl<|fun i2 => y1 (cs := _) rfl rfl rfl<|zo (cs := [.int .i64 0, .int .i64 0]) zeroValue75 rfl rfl<|fun i4 => z6<|za<|zSr<|z2 (zFF underlying75 rfl sizeOf2 rfl rfl)<|z2 (zLi isAgg2 rfl)<|z2 (zq underlying75 rfl sizeOf2 (by decide) rfl rfl)<|z2 (zu (c := .int _ _) isAgg2 rfl ⟨_, .t1⟩ rfl)<|z2 (y7 rfl rfl)<|z6<|yb (γ := Int) [2, 3, 4] (fun x => []) (fun x => [(i4, .cells 75 [.int .i64 0, .int .i64 0]), (i2, .cells 75 [.int .i64 x, .int .i64 a.2])]) (fun x => x = if b.1 < a.1 then b.1 else a.1) ?_ (fun _ _ h => h) ?_
 ·refine zl rfl (fun c=>?_) (fun c=>?_)
  ·refine zRg<|z2 (zFF underlying75 rfl sizeOf2 rfl rfl)<|z2 (zLi isAgg2 rfl)<|z2 (zq underlying75 rfl sizeOf2 (by decide) rfl rfl)<|yu (l := [_]) (new := [_, _]) sizeOf2 rfl rfl rfl rfl rfl rfl .t1 rfl rfl<|z6 ?_
   exact ⟨b.1, zR3, trivial, zLe, by rw [if_pos c]⟩
  ·refine zf ?_
   exact ⟨a.1, zR3, trivial, zLe, by rw [if_neg c]⟩
 ·rintro x hx
  rw [wideQ, ← hx]
  refine za<|zSr<|z2 (zFF underlying75 rfl sizeOf2 rfl rfl)<|z2 (zLi isAgg2 rfl)<|z2 (zq underlying75 rfl sizeOf2 (by decide) rfl rfl)<|z2 (zu (c := .int _ _) isAgg2 rfl ⟨_, .t1⟩ rfl)<|z2 (yq rfl rfl)<|z6<|zl rfl (fun c=>?_) (fun c=>?_)
  ·refine zRg<|z2 (zFF underlying75 rfl sizeOf2 rfl rfl)<|z2 (zLi isAgg2 rfl)<|z2 (zq underlying75 rfl sizeOf2 (by decide) rfl rfl)<|yu (l := [_]) (new := [_, _]) sizeOf2 rfl rfl rfl rfl rfl rfl .t1 rfl rfl<|z6<|zSr<|z2 (yp isAgg75 sizeOf75 rfl ⟨_, .t1⟩ rfl)<|zc sizeOf75 rfl rfl rfl rfl rfl rfl .head rfl<|z6<|zd<|y8 rfl ⟨_, .head⟩ isAgg75 sizeOf75 rfl ?_
   rw [if_pos c]; try rfl
  ·refine zf<|zSr<|z2 (yp isAgg75 sizeOf75 rfl ⟨_, .t1⟩ rfl)<|zc sizeOf75 rfl rfl rfl rfl rfl rfl .head rfl<|z6<|zd<|y8 rfl ⟨_, .head⟩ isAgg75 sizeOf75 rfl ?_
   rw [if_neg c]; try rfl
theorem rHull (a b : Int) : AFun prog E 183 [.int .i64 a, .int .i64 b] (.agg (encZ (hullQ a b))) := by
 refine zn func183 rfl (by decide) rfl<|zSr<|zo (cs := [.int .i64 0, .int .i64 0]) zeroValue75 rfl rfl<|fun i4 => z6<|za<|zSr<|z2 (zMi rfl)<|z2 (zMi rfl)<|z2 (yq rfl rfl)<|z6<|zl rfl (fun c=>?_) (fun c=>?_)
 ·refine zRg<|z2 (zMi rfl)<|z2 (zMi rfl)<|z2 (zAi rfl)<|z2 (zAi rfl)<|z6<|zSr<|z2 (zMi rfl)<|z2 (zMi rfl)<|z2 (zx (cps := [(0, [_]), (1, [_])]) (rs := [_, _]) pl75 rfl rfl rfl)<|zc sizeOf75 rfl rfl rfl rfl rfl rfl .head rfl<|z6<|zd<|y8 rfl ⟨_, .head⟩ isAgg75 sizeOf75 rfl ?_
  rw [hullQ, if_pos c]; try rfl
 ·refine zf<|zSr<|z2 (zMi rfl)<|z2 (zMi rfl)<|z2 (zx (cps := [(0, [_]), (1, [_])]) (rs := [_, _]) pl75 rfl rfl rfl)<|zc sizeOf75 rfl rfl rfl rfl rfl rfl .head rfl<|z6<|zd<|y8 rfl ⟨_, .head⟩ isAgg75 sizeOf75 rfl ?_
  rw [hullQ, if_neg c]; try rfl
theorem rFits2 {k : Nat} (hk : k ≤ 2) {x y : Int} (hx : is64 x) (hy : is64 y) : AFun prog E 133 [.int .i64 k, .int .i64 x, .int .i64 y] (.bool (decide (fit3 k x y))) := by
 have hx1 := hx; have hy1 := hy
 unfold is64 at hx1 hy1
 refine zn func133 rfl (by decide) rfl<|zSr<|z2 (zAb rfl)<|z6<|za<|zSr<|z2 (zMi rfl)<|z6<|zi<|zSr<|z2 (zw rfl rfl)<|z2 (zAb rfl)<|z6<|zl rfl (fun c0=>?_) (fun c0=>?_)
 ·have hk0 : k = 0 := by omega
  subst hk0
  refine zSr<|z2 (zMi rfl)<|z2 (yq rfl rfl)<|z2 (zMb rfl)<|zr (s := 16) rfl (fun c1=>?_) (fun c1=>?_)
  ·refine z8 rfl rfl c1<|z2 (zMi rfl)<|z8 rfl rfl c1<|z2 (zMi rfl)<|z8 rfl rfl c1<|z2 (Gv.sub rfl rfl (by unfold I64; simp at *; omega))<|z8 rfl rfl c1<|z2 (yq rfl rfl)<|z2 (zPt rfl c1 rfl)<|z2 (yg rfl)<|z2 (zMb rfl)<|zr (s := 23) rfl (fun c2=>?_) (fun c2=>?_)
   ·refine z8 rfl rfl c2<|z2 (zMi rfl)<|z8 rfl rfl c2<|z2 (y7 rfl rfl)<|z8 rfl rfl c2<|z2 (zMb rfl)<|zr (s := 26) rfl (fun c3=>?_) (fun c3=>?_)
    ·refine z8 rfl rfl c3<|z2 (zMi rfl)<|z8 rfl rfl c3<|z2 (zMi rfl)<|z8 rfl rfl c3<|z2 (Gv.sub rfl rfl (by unfold I64; simp at *; omega))<|z8 rfl rfl c3<|z2 (y7 rfl rfl)<|z8 rfl rfl c2<|z2 (zPt rfl c3 rfl)<|z8 rfl rfl c2<|z2 (yg rfl)<|z2 (zPt rfl c2 rfl)<|z2 (zAb rfl)<|z6<|zd<|zm (x := .bool _) rfl ?_
     exact jb (by rw [qq]; unfold fit3 op3 is64; simp at * <;> omega)
    ·refine z7 rfl rfl c3<|z7 rfl rfl c3<|z7 rfl rfl c3<|z7 rfl rfl c3<|z8 rfl rfl c2<|z2 (zPf rfl c3 rfl)<|z8 rfl rfl c2<|z2 (yg rfl)<|z2 (zPt rfl c2 rfl)<|z2 (zAb rfl)<|z6<|zd<|zm (x := .bool _) rfl ?_
     exact jb (by rw [qq]; unfold fit3 op3 is64; simp at * <;> omega)
   ·refine z7 rfl rfl c2<|z7 rfl rfl c2<|z7 rfl rfl c2<|zk rfl rfl<|zk rfl rfl<|zk rfl rfl<|zk rfl rfl<|z7 rfl rfl c2<|z7 rfl rfl c2<|z2 (zPf rfl c2 rfl)<|z2 (zAb rfl)<|z6<|zd<|zm (x := .bool _) rfl ?_
    exact jb (by rw [qq]; unfold fit3 op3 is64; simp at * <;> omega)
  ·refine z7 rfl rfl c1<|z7 rfl rfl c1<|z7 rfl rfl c1<|z7 rfl rfl c1<|z2 (zPf rfl c1 rfl)<|z2 (yg rfl)<|z2 (zMb rfl)<|z8 rfl rfl rfl<|z2 (zMi rfl)<|z8 rfl rfl rfl<|z2 (y7 rfl rfl)<|z8 rfl rfl rfl<|z2 (zMb rfl)<|zr (s := 26) rfl (fun c4=>?_) (fun c4=>?_)
   ·refine z8 rfl rfl c4<|z2 (zMi rfl)<|z8 rfl rfl c4<|z2 (zMi rfl)<|z8 rfl rfl c4<|z2 (Gv.sub rfl rfl (by unfold I64; simp at *; omega))<|z8 rfl rfl c4<|z2 (y7 rfl rfl)<|z8 rfl rfl rfl<|z2 (zPt rfl c4 rfl)<|z8 rfl rfl rfl<|z2 (yg rfl)<|z2 (zPt rfl rfl rfl)<|z2 (zAb rfl)<|z6<|zd<|zm (x := .bool _) rfl ?_
    exact jb (by rw [qq]; unfold fit3 op3 is64; simp at * <;> omega)
   ·refine z7 rfl rfl c4<|z7 rfl rfl c4<|z7 rfl rfl c4<|z7 rfl rfl c4<|z8 rfl rfl rfl<|z2 (zPf rfl c4 rfl)<|z8 rfl rfl rfl<|z2 (yg rfl)<|z2 (zPt rfl rfl rfl)<|z2 (zAb rfl)<|z6<|zd<|zm (x := .bool _) rfl ?_
    exact jb (by rw [qq]; unfold fit3 op3 is64; simp at * <;> omega)
 ·refine zSr<|z2 (zw rfl rfl)<|z2 (zAb rfl)<|z6<|zl rfl (fun c1=>?_) (fun c1=>?_)
  ·have hk1 : k = 1 := by omega
   subst hk1
   refine zSr<|z2 (zMi rfl)<|z2 (y7 rfl rfl)<|z2 (zMb rfl)<|zr (s := 38) rfl (fun c5=>?_) (fun c5=>?_)
   ·refine z8 rfl rfl c5<|z2 (zMi rfl)<|z8 rfl rfl c5<|z2 (zMi rfl)<|z8 rfl rfl c5<|z2 (Gv.add rfl rfl (by unfold I64; simp at *; omega))<|z8 rfl rfl c5<|z2 (yq rfl rfl)<|z2 (zPt rfl c5 rfl)<|z2 (yg rfl)<|z2 (zMb rfl)<|zr (s := 45) rfl (fun c6=>?_) (fun c6=>?_)
    ·refine z8 rfl rfl c6<|z2 (zMi rfl)<|z8 rfl rfl c6<|z2 (yq rfl rfl)<|z8 rfl rfl c6<|z2 (zMb rfl)<|zr (s := 48) rfl (fun c7=>?_) (fun c7=>?_)
     ·refine z8 rfl rfl c7<|z2 (zMi rfl)<|z8 rfl rfl c7<|z2 (zMi rfl)<|z8 rfl rfl c7<|z2 (Gv.add rfl rfl (by unfold I64; simp at *; omega))<|z8 rfl rfl c7<|z2 (y7 rfl rfl)<|z8 rfl rfl c6<|z2 (zPt rfl c7 rfl)<|z8 rfl rfl c6<|z2 (yg rfl)<|z2 (zPt rfl c6 rfl)<|z2 (zAb rfl)<|z6<|zd<|zm (x := .bool _) rfl ?_
      exact jb (by rw [qq]; unfold fit3 op3 is64; simp at * <;> omega)
     ·refine z7 rfl rfl c7<|z7 rfl rfl c7<|z7 rfl rfl c7<|z7 rfl rfl c7<|z8 rfl rfl c6<|z2 (zPf rfl c7 rfl)<|z8 rfl rfl c6<|z2 (yg rfl)<|z2 (zPt rfl c6 rfl)<|z2 (zAb rfl)<|z6<|zd<|zm (x := .bool _) rfl ?_
      exact jb (by rw [qq]; unfold fit3 op3 is64; simp at * <;> omega)
    ·refine z7 rfl rfl c6<|z7 rfl rfl c6<|z7 rfl rfl c6<|zk rfl rfl<|zk rfl rfl<|zk rfl rfl<|zk rfl rfl<|z7 rfl rfl c6<|z7 rfl rfl c6<|z2 (zPf rfl c6 rfl)<|z2 (zAb rfl)<|z6<|zd<|zm (x := .bool _) rfl ?_
     exact jb (by rw [qq]; unfold fit3 op3 is64; simp at * <;> omega)
   ·refine z7 rfl rfl c5<|z7 rfl rfl c5<|z7 rfl rfl c5<|z7 rfl rfl c5<|z2 (zPf rfl c5 rfl)<|z2 (yg rfl)<|z2 (zMb rfl)<|z8 rfl rfl rfl<|z2 (zMi rfl)<|z8 rfl rfl rfl<|z2 (yq rfl rfl)<|z8 rfl rfl rfl<|z2 (zMb rfl)<|zr (s := 48) rfl (fun c8=>?_) (fun c8=>?_)
    ·refine z8 rfl rfl c8<|z2 (zMi rfl)<|z8 rfl rfl c8<|z2 (zMi rfl)<|z8 rfl rfl c8<|z2 (Gv.add rfl rfl (by unfold I64; simp at *; omega))<|z8 rfl rfl c8<|z2 (y7 rfl rfl)<|z8 rfl rfl rfl<|z2 (zPt rfl c8 rfl)<|z8 rfl rfl rfl<|z2 (yg rfl)<|z2 (zPt rfl rfl rfl)<|z2 (zAb rfl)<|z6<|zd<|zm (x := .bool _) rfl ?_
     exact jb (by rw [qq]; unfold fit3 op3 is64; simp at * <;> omega)
    ·refine z7 rfl rfl c8<|z7 rfl rfl c8<|z7 rfl rfl c8<|z7 rfl rfl c8<|z8 rfl rfl rfl<|z2 (zPf rfl c8 rfl)<|z8 rfl rfl rfl<|z2 (yg rfl)<|z2 (zPt rfl rfl rfl)<|z2 (zAb rfl)<|z6<|zd<|zm (x := .bool _) rfl ?_
     exact jb (by rw [qq]; unfold fit3 op3 is64; simp at * <;> omega)
  ·have hk2 : k = 2 := by omega
   subst hk2
   refine zf<|za<|za<|yb (γ := Bool) [1, 2] (fun u => [(61, .bool u)]) (fun u => []) (fun u => u = decide (x = 0 ∨ y = 0)) ?_ (fun _ _ h => h) ?_
   ·refine zRg<|z2 (zMi rfl)<|z2 (zw rfl rfl)<|z2 (zMb rfl)<|zr (s := 58) rfl (fun c9=>?_) (fun c9=>?_)
    ·refine z7 rfl rfl c9<|z7 rfl rfl c9<|z2 (zPt rfl c9 rfl)<|z6 ?_
     exact ⟨_, zR2, zR1, zLe, by simp_all⟩
    ·refine z8 rfl rfl c9<|z2 (zMi rfl)<|z8 rfl rfl c9<|z2 (zw rfl rfl)<|z2 (zPf rfl c9 rfl)<|z6 ?_
     exact ⟨_, zR2, zR1, zLe, by simp_all⟩
   ·rintro u hu
    subst hu
    refine zl rfl (fun cz=>?_) (fun cz=>?_)
    ·refine zSr<|z2 (zAb rfl)<|z6<|zd<|zm (x := .bool _) rfl ?_
     exact jb (by rw [qu]; unfold fit3; rw [show op3 2 x y = x * y from rfl]; rcases cz with h | h <;> rw [h] <;> simp [is64])
    ·have hx0 : x ≠ 0 := fun e => cz (.inl e)
     have hy0 : y ≠ 0 := fun e => cz (.inr e)
     refine zf<|zSr<|z2 (zMi rfl)<|z2 (y7 rfl rfl)<|z2 (zMi rfl)<|z2 (y7 rfl rfl)<|z2 (Gv.eqlB underlying4 rfl rfl)<|z2 (zAb rfl)<|z6<|zSr<|z2 (zMi rfl)<|z2 (q7 underlying2 underlying232 rfl)<|z2 (zMi rfl)<|z2 (q7 underlying2 underlying232 rfl)<|z2 (zAi rfl)<|z2 (zAi rfl)<|z6<|za<|zSr<|z2 (zMi rfl)<|z2 (y7 rfl rfl)<|z6<|yb (γ := Int) [2, 7, 9] (fun u => [(8, .int .u64 u)]) (fun u => []) (fun u => u = (x.natAbs : Int)) ?_ (fun _ _ h => h) ?_
     ·refine zl rfl (fun c=>?_) (fun c=>?_)
      ·refine zRg<|z2 (zMi rfl)<|z2 (Gv.neg rfl)<|z2 (zAi rfl)<|z6 ?_
       exact ⟨_, zR3, zR1, zLe, by have := abs_wrap hx; rwa [if_pos c] at this⟩
      ·refine zf ?_
       exact ⟨_, zR3, zR1, zLe, by have := abs_wrap hx; rwa [if_neg c] at this⟩
     ·rintro u hu
      subst hu
      refine za<|zSr<|z2 (zMi rfl)<|z2 (y7 rfl rfl)<|z6<|yb (γ := Int) [7, 8] (fun u => [(9, .int .u64 u)]) (fun u => []) (fun u => u = (y.natAbs : Int)) ?_ (fun _ _ h => h) ?_
      ·refine zl rfl (fun c=>?_) (fun c=>?_)
       ·refine zRg<|z2 (zMi rfl)<|z2 (Gv.neg rfl)<|z2 (zAi rfl)<|z6 ?_
        exact ⟨_, zR2, zR1, zLe, by have := abs_wrap hy; rwa [if_pos c] at this⟩
       ·refine zf ?_
        exact ⟨_, zR2, zR1, zLe, by have := abs_wrap hy; rwa [if_neg c] at this⟩
      ·rintro u hu
       subst hu
       refine zSr<|z2 (zAi rfl)<|z6<|za<|zSr<|z2 (zMb rfl)<|z2 (yg rfl)<|z6<|yb (γ := Int) [8, 9] (fun u => [(10, .int .u64 u)]) (fun u => []) (fun u => u = (if (decide (x < 0) == decide (y < 0)) = true then 9223372036854775807 else 9223372036854775808)) ?_ (fun _ _ h => h) ?_
       ·refine zy rfl (fun c=>?_) (fun c=>?_)
        ·refine zRg<|z2 (zAi rfl)<|z6 ?_
         exact ⟨_, zR2, zR1, zLe, by rw [if_neg (by simpa using c)]⟩
        ·refine zf ?_
         exact ⟨_, zR2, zR1, zLe, by rw [if_pos (by simpa using c)]⟩
       ·rintro u hu
        subst hu
        refine zSr<|z2 (zMi rfl)<|z2 (zMi rfl)<|z2 (zMi rfl)<|z2 (Gv.quo rfl rfl (by omega))<|z2 (Gv.leq rfl rfl)<|z2 (zAb rfl)<|z6<|zd<|zm (x := .bool _) rfl ?_
        exact jb (fitU hx hx0 hy0)
theorem rWrap {k : Nat} (hk : k ≤ 2) {x y : Int} : AFun prog E 221 [.int .i64 k, .int .i64 x, .int .i64 y] (.int .i64 (IntKind.i64.wrap (op3 k x y))) := by
 refine zn func221 rfl (by decide) rfl<|zSr<|z2 (zAi rfl)<|z6<|za<|zSr<|z2 (zMi rfl)<|z6<|zi<|zSr<|z2 (zw rfl rfl)<|z2 (zAb rfl)<|z6<|zl rfl (fun c0=>?_) (fun c0=>?_)
 ·have hk0 : k = 0 := by omega
  subst hk0
  refine zSr<|z2 (zMi rfl)<|z2 (q7 underlying2 underlying232 rfl)<|z2 (zMi rfl)<|z2 (q7 underlying2 underlying232 rfl)<|z2 (Gv.addW rfl rfl)<|z2 (q7 underlying232 underlying2 rfl)<|z2 (zAi rfl)<|z6<|zd<|zm (x := .int _ _) rfl ?_
  exact congrArg (AV.int .i64) (wrapU_add x y)
 ·refine zSr<|z2 (zw rfl rfl)<|z2 (zAb rfl)<|z6<|zl rfl (fun c1=>?_) (fun c1=>?_)
  ·have hk1 : k = 1 := by omega
   subst hk1
   refine zSr<|z2 (zMi rfl)<|z2 (q7 underlying2 underlying232 rfl)<|z2 (zMi rfl)<|z2 (q7 underlying2 underlying232 rfl)<|z2 (Gv.subW rfl rfl)<|z2 (q7 underlying232 underlying2 rfl)<|z2 (zAi rfl)<|z6<|zd<|zm (x := .int _ _) rfl ?_
   exact congrArg (AV.int .i64) (wrapU_sub x y)
  ·have hk2 : k = 2 := by omega
   subst hk2
   refine zf<|zSr<|z2 (zMi rfl)<|z2 (q7 underlying2 underlying232 rfl)<|z2 (zMi rfl)<|z2 (q7 underlying2 underlying232 rfl)<|z2 (Gv.mulW rfl rfl)<|z2 (q7 underlying232 underlying2 rfl)<|z2 (zAi rfl)<|z6<|zd<|zm (x := .int _ _) rfl ?_
   exact congrArg (AV.int .i64) (wrapU_mul x y)
theorem rOne {k : Nat} (hk : k ≤ 2) {x y : Int} (hx : is64 x) (hy : is64 y) : AFun prog E 184 [.int .i64 k, .int .i64 x, .int .i64 y] (.int .i64 (one3 k x y)) := by
 refine zn func184 rfl (by decide) rfl<|zSr<|z2 (zAi rfl)<|z6<|za<|zSr<|z2 (zMi rfl)<|z2 (zMi rfl)<|z2 (zMi rfl)<|zb (rFits2 hk hx hy) rfl<|z6<|zl rfl (fun cf=>?_) (fun cf=>?_)
 ·refine zSr<|z2 (zMi rfl)<|z2 (zMi rfl)<|z2 (zMi rfl)<|zb (rWrap hk) rfl<|z2 (zAi rfl)<|z6<|zd<|zm (x := .int _ _) rfl ?_
  rw [one3, if_pos cf, wrap_fit cf]; try rfl
 ·rw [one3, if_neg cf, near3]
  refine zf<|zSr<|z2 (zMi rfl)<|z2 (y7 rfl rfl)<|z2 (zAb rfl)<|z6<|za<|zSr<|z2 (zMi rfl)<|z2 (zw rfl rfl)<|z6<|zl rfl (fun c2=>?_) (fun c2=>?_)
  ·have hk2 : k = 2 := by omega
   subst hk2
   rw [if_pos rfl]
   refine zRg<|z2 (zMi rfl)<|z2 (y7 rfl rfl)<|z2 (zMi rfl)<|z2 (y7 rfl rfl)<|z2 (Gv.neqB underlying4 rfl rfl)<|z2 (zAb rfl)<|z6<|za<|zSr<|z2 (zMb rfl)<|z6<|zy rfl (fun c=>?_) (fun c=>?_)
   ·refine zSr<|z2 (zAi rfl)<|z6<|zd<|zm (x := .int _ _) rfl ?_
    rw [if_pos (by simpa using c)]; try rfl
   ·refine zf<|zSr<|z2 (zAi rfl)<|z6<|zd<|zm (x := .int _ _) rfl ?_
    rw [if_neg (by simpa using c)]; try rfl
  ·rw [if_neg (show ¬ k = 2 by omega)]
   refine zf<|za<|zSr<|z2 (zMb rfl)<|z6<|zy rfl (fun c=>?_) (fun c=>?_)
   ·refine zSr<|z2 (zAi rfl)<|z6<|zd<|zm (x := .int _ _) rfl ?_
    rw [if_pos c]; try rfl
   ·refine zf<|zSr<|z2 (zAi rfl)<|z6<|zd<|zm (x := .int _ _) rfl ?_
    rw [if_neg (by simpa using c)]; try rfl
theorem rClip {k : Nat} (hk : k ≤ 2) {a b : Rng} (ha : ok64 a) (hb : ok64 b) : AFun prog E 125 [.int .i64 k, .agg (encZ a), .agg (encZ b)] (.agg (encZ (clipQ k a b))) := by
 refine zn func125 rfl (by decide) rfl<|zSr<|y1 (cs := _) rfl rfl rfl<|y1 (cs := _) rfl rfl rfl<|zo (cs := [.int .i64 0, .int .i64 0]) zeroValue75 rfl rfl<|fun i6 => z6<|za<|zt (fun j => Nat.beq j 27) (by kernel_rfl) rfl (zp (.rest _))<|zTk 0 rfl (zMi rfl)<|zTk 1 rfl (zFF underlying75 rfl sizeOf2 rfl rfl)<|zTk 2 rfl (zLi isAgg2 rfl)<|zTk 3 rfl (zFF underlying75 rfl sizeOf2 rfl rfl)<|zTk 4 rfl (zLi isAgg2 rfl)<|zTk 6 rfl (zMi rfl)<|zTk 7 rfl (zFF underlying75 rfl sizeOf2 rfl rfl)<|zTk 8 rfl (zLi isAgg2 rfl)<|zTk 9 rfl (zFF underlying75 rfl sizeOf2 rfl rfl)<|zTk 10 rfl (zLi isAgg2 rfl)<|zTk 13 rfl (zMi rfl)<|zTk 14 rfl (zFF underlying75 rfl sizeOf2 rfl rfl)<|zTk 15 rfl (zLi isAgg2 rfl)<|zTk 16 rfl (zFF underlying75 rfl sizeOf2 rfl rfl)<|zTk 17 rfl (zLi isAgg2 rfl)<|zTk 19 rfl (zMi rfl)<|zTk 20 rfl (zFF underlying75 rfl sizeOf2 rfl rfl)<|zTk 21 rfl (zLi isAgg2 rfl)<|zTk 22 rfl (zFF underlying75 rfl sizeOf2 rfl rfl)<|zTk 23 rfl (zLi isAgg2 rfl)<|zOn 5 rfl<|zb (rOne hk ha.1 hb.1) rfl<|z6<|zOn 11 rfl<|zb (rOne hk ha.1 hb.2) rfl<|z6<|zOn 12 rfl<|zb (rHull _ _) rfl<|z6<|zOn 18 rfl<|zb (rOne hk ha.2 hb.1) rfl<|z6 ?_
 refine zOn 24 rfl<|zb (rOne hk ha.2 hb.2) rfl<|z6<|zOn 25 rfl<|zb (rHull _ _) rfl<|z6<|zOn 26 rfl<|zb (rWide _ _) rfl<|z6<|yf<|yl (i := 27) rfl (by kernel_rfl) (by kernel_rfl)<|zc sizeOf75 rfl rfl rfl rfl rfl rfl .head rfl<|z6<|yh (by kernel_rfl)<|zd<|y8 rfl ⟨_, .head⟩ isAgg75 sizeOf75 rfl ?_
 rfl
theorem rFits {k : Nat} (hk : k ≤ 2) {a b : Rng} (ha : ok64 a) (hb : ok64 b) : AFun prog E 109 [.int .i64 k, .agg (encZ a), .agg (encZ b)] (.bool (decide (cornF k a b))) := by
 refine zn func109 rfl (by decide) rfl<|zSr<|y1 (cs := _) rfl rfl rfl<|y1 (cs := _) rfl rfl rfl<|z2 (zAb rfl)<|z6<|zSr<|z2 (zMi rfl)<|z2 (zFF underlying75 rfl sizeOf2 rfl rfl)<|z2 (zLi isAgg2 rfl)<|z2 (zFF underlying75 rfl sizeOf2 rfl rfl)<|z2 (zLi isAgg2 rfl)<|zb (rFits2 hk ha.1 hb.1) rfl<|z2 (zMb rfl)<|zr (s := 13) rfl (fun c10=>?_) (fun c10=>?_)
 ·refine z8 rfl rfl c10<|z2 (zMi rfl)<|z8 rfl rfl c10<|z2 (zFF underlying75 rfl sizeOf2 rfl rfl)<|z8 rfl rfl c10<|z2 (zLi isAgg2 rfl)<|z8 rfl rfl c10<|z2 (zFF underlying75 rfl sizeOf2 rfl rfl)<|z8 rfl rfl c10<|z2 (zLi isAgg2 rfl)<|z8 rfl rfl c10<|zb (rFits2 hk ha.1 hb.2) rfl<|z2 (zPt rfl c10 rfl)<|z2 (zMb rfl)<|zr (s := 21) rfl (fun c11=>?_) (fun c11=>?_)
  ·refine z8 rfl rfl c11<|z2 (zMi rfl)<|z8 rfl rfl c11<|z2 (zFF underlying75 rfl sizeOf2 rfl rfl)<|z8 rfl rfl c11<|z2 (zLi isAgg2 rfl)<|z8 rfl rfl c11<|z2 (zFF underlying75 rfl sizeOf2 rfl rfl)<|z8 rfl rfl c11<|z2 (zLi isAgg2 rfl)<|z8 rfl rfl c11<|zb (rFits2 hk ha.2 hb.1) rfl<|z2 (zPt rfl c11 rfl)<|z2 (zMb rfl)<|zr (s := 29) rfl (fun c12=>?_) (fun c12=>?_)
   ·refine z8 rfl rfl c12<|z2 (zMi rfl)<|z8 rfl rfl c12<|z2 (zFF underlying75 rfl sizeOf2 rfl rfl)<|z8 rfl rfl c12<|z2 (zLi isAgg2 rfl)<|z8 rfl rfl c12<|z2 (zFF underlying75 rfl sizeOf2 rfl rfl)<|z8 rfl rfl c12<|z2 (zLi isAgg2 rfl)<|z8 rfl rfl c12<|zb (rFits2 hk ha.2 hb.2) rfl<|z2 (zPt rfl c12 rfl)<|z2 (zAb rfl)<|z6<|zd<|zm (x := .bool _) rfl ?_
    exact jb (by unfold cornF; simp_all)
   ·refine z7 rfl rfl c12<|z7 rfl rfl c12<|z7 rfl rfl c12<|z7 rfl rfl c12<|z7 rfl rfl c12<|z7 rfl rfl c12<|z2 (zPf rfl c12 rfl)<|z2 (zAb rfl)<|z6<|zd<|zm (x := .bool _) rfl ?_
    exact jb (by unfold cornF; simp_all)
  ·refine z7 rfl rfl c11<|z7 rfl rfl c11<|z7 rfl rfl c11<|z7 rfl rfl c11<|z7 rfl rfl c11<|z7 rfl rfl c11<|z2 (zPf rfl c11 rfl)<|z2 (zMb rfl)<|z7 rfl rfl rfl<|z7 rfl rfl rfl<|z7 rfl rfl rfl<|z7 rfl rfl rfl<|z7 rfl rfl rfl<|z7 rfl rfl rfl<|z2 (zPf rfl rfl rfl)<|z2 (zAb rfl)<|z6<|zd<|zm (x := .bool _) rfl ?_
   exact jb (by unfold cornF; simp_all)
 ·refine z7 rfl rfl c10<|z7 rfl rfl c10<|z7 rfl rfl c10<|z7 rfl rfl c10<|z7 rfl rfl c10<|z7 rfl rfl c10<|z2 (zPf rfl c10 rfl)<|z2 (zMb rfl)<|z7 rfl rfl rfl<|z7 rfl rfl rfl<|z7 rfl rfl rfl<|z7 rfl rfl rfl<|z7 rfl rfl rfl<|z7 rfl rfl rfl<|z2 (zPf rfl rfl rfl)<|z2 (zMb rfl)<|z7 rfl rfl rfl<|z7 rfl rfl rfl<|z7 rfl rfl rfl<|z7 rfl rfl rfl<|z7 rfl rfl rfl<|z7 rfl rfl rfl<|z2 (zPf rfl rfl rfl)<|z2 (zAb rfl)<|z6<|zd<|zm (x := .bool _) rfl ?_
  exact jb (by unfold cornF; simp_all)
theorem rDiv2 {x y : Int} (hy : y ≠ 0) : AFun prog E 239 [.int .i64 x, .int .i64 y] (.tup [.int .i64 (IntKind.i64.wrap (x.tdiv y)), .int .i64 (if y = -1 then 0 else IntKind.i64.wrap (x - IntKind.i64.wrap (IntKind.i64.wrap (x.tdiv y) * y)))]) := by
 refine zn func239 rfl (by decide) rfl<|zSr<|z2 (zAi rfl)<|z2 (zAi rfl)<|z6<|za<|zSr<|z2 (zMi rfl)<|z2 (zw rfl rfl)<|z6<|zl rfl (fun c=>?_) (fun c=>?_)
 ·refine zSr<|z2 (zMi rfl)<|z2 (q7 underlying2 underlying232 rfl)<|z2 (Gv.neg rfl)<|z2 (q7 underlying232 underlying2 rfl)<|z2 (zAi rfl)<|z2 (zAi rfl)<|z6<|zd<|qa (x := .int _ _) (y := .int _ _) rfl rfl ?_
  rw [if_pos c, c, wrapU_neg]; try rfl
 ·refine zf<|za<|zt (fun j => false) (by kernel_rfl) rfl (zp (.rest _))<|zTk 0 rfl (zMi rfl)<|zTk 1 rfl (zMi rfl)<|zTk 2 rfl (Gv.quo rfl rfl (by omega))<|zTk 3 rfl (zMi rfl)<|zTk 4 rfl (zMi rfl)<|zTk 5 rfl (zMi rfl)<|zTk 6 rfl (Gv.quo rfl rfl (by omega))<|zTk 7 rfl (zMi rfl)<|zTk 8 rfl (Gv.mulW rfl rfl)<|zTk 9 rfl (Gv.subW rfl rfl)<|zTk 10 rfl (zAi rfl)<|zTk 11 rfl (zAi rfl)<|zDn<|zd<|qa (x := .int _ _) (y := .int _ _) rfl rfl ?_
  rw [if_neg c]; try rfl
theorem rDivQ {x y : Int} (hy : y ≠ 0) : AFun prog E 222 [.int .i64 x, .int .i64 y] (.int .i64 (IntKind.i64.wrap (x.tdiv y))) := by
 refine zn func222 rfl (by decide) rfl<|zSr<|z2 (zAi rfl)<|z6<|zSr<|z2 (zMi rfl)<|z2 (zMi rfl)<|zb (rDiv2 hy) rfl<|z2 (zMu rfl)<|z2 (zXi rfl rfl)<|z2 (zXi rfl rfl)<|z2 (zAi rfl)<|z2 (zAi rfl)<|z6<|zSr<|z2 (zMi rfl)<|z2 (zAi rfl)<|z6<|zd<|zm (x := .int _ _) rfl ?_
 rfl
theorem rQuo {a b : Rng} (ha : ok64 a) (hb1 : b.1 ≠ 0) (hb2 : b.2 ≠ 0) (h11 : fitD a.1 b.1 = true) (h12 : fitD a.1 b.2 = true) (h21 : fitD a.2 b.1 = true) (h22 : fitD a.2 b.2 = true) : AFun prog E 185 [.agg (encZ a), .agg (encZ b)] (.agg (encZ (quoQ a b))) := by
 unfold quoQ
 rw [← quo_fit ha.1 hb1 h11, ← quo_fit ha.1 hb2 h12, ← quo_fit ha.2 hb1 h21, ← quo_fit ha.2 hb2 h22]
 refine zn func185 rfl (by decide) rfl<|zSr<|y1 (cs := _) rfl rfl rfl<|y1 (cs := _) rfl rfl rfl<|zo (cs := [.int .i64 0, .int .i64 0]) zeroValue75 rfl rfl<|fun i4 => z6<|za<|zt (fun j => Nat.beq j 23) (by kernel_rfl) rfl (zp (.rest _))<|zTk 0 rfl (zFF underlying75 rfl sizeOf2 rfl rfl)<|zTk 1 rfl (zLi isAgg2 rfl)<|zTk 2 rfl (zFF underlying75 rfl sizeOf2 rfl rfl)<|zTk 3 rfl (zLi isAgg2 rfl)<|zTk 5 rfl (zFF underlying75 rfl sizeOf2 rfl rfl)<|zTk 6 rfl (zLi isAgg2 rfl)<|zTk 7 rfl (zFF underlying75 rfl sizeOf2 rfl rfl)<|zTk 8 rfl (zLi isAgg2 rfl)<|zTk 11 rfl (zFF underlying75 rfl sizeOf2 rfl rfl)<|zTk 12 rfl (zLi isAgg2 rfl)<|zTk 13 rfl (zFF underlying75 rfl sizeOf2 rfl rfl)<|zTk 14 rfl (zLi isAgg2 rfl)<|zTk 16 rfl (zFF underlying75 rfl sizeOf2 rfl rfl)<|zTk 17 rfl (zLi isAgg2 rfl)<|zTk 18 rfl (zFF underlying75 rfl sizeOf2 rfl rfl)<|zTk 19 rfl (zLi isAgg2 rfl)<|zOn 4 rfl<|zb (rDivQ hb1) rfl<|z6<|zOn 9 rfl<|zb (rDivQ hb2) rfl<|z6<|zOn 10 rfl<|zb (rHull _ _) rfl<|z6<|zOn 15 rfl<|zb (rDivQ hb1) rfl<|z6<|zOn 20 rfl<|zb (rDivQ hb2) rfl<|z6<|zOn 21 rfl ?_
 refine zb (rHull _ _) rfl<|z6<|zOn 22 rfl<|zb (rWide _ _) rfl<|z6<|yf<|yl (i := 23) rfl (by kernel_rfl) (by kernel_rfl)<|zc sizeOf75 rfl rfl rfl rfl rfl rfl .head rfl<|z6<|yh (by kernel_rfl)<|zd<|y8 rfl ⟨_, .head⟩ isAgg75 sizeOf75 rfl ?_
 rfl
theorem rDiv {a b : Rng} (ha : ok64 a) (na : a.1 ≤ a.2) (nb : b.1 ≤ b.2) : AFun prog E 126 [.agg (encZ a), .agg (encZ b)] (.agg (encZ (divQ a b))) := by
 refine zn func126 rfl (by decide) rfl<|zSr<|y1 (cs := _) rfl rfl rfl<|yj (cs := _) rfl rfl rfl rfl<|fun i3 => zo (cs := [.int .i64 0, .int .i64 0]) zeroValue75 rfl rfl<|fun i4 => z6<|za<|za<|yb (γ := Bool) [2, 3, 4] (fun u => [(17, .bool u)]) (fun u => [(i4, .cells 75 [.int .i64 0, .int .i64 0]), (i3, .cells 75 (encZ b))]) (fun u => u = decide (a.1 = m64 ∧ b.1 ≤ -1 ∧ -1 ≤ b.2)) ?_ (fun _ _ h => h) ?_
 ·refine zRg<|z2 (zFF underlying75 rfl sizeOf2 rfl rfl)<|z2 (zLi isAgg2 rfl)<|z2 (zw rfl rfl)<|z2 (zMb rfl)<|zr (s := 8) rfl (fun c13=>?_) (fun c13=>?_)
  ·refine z8 rfl rfl c13<|z2 (zq underlying75 rfl sizeOf2 (by decide) rfl rfl)<|z8 rfl rfl c13<|z2 (zu (c := .int _ _) isAgg2 rfl ⟨_, .t1⟩ rfl)<|z8 rfl rfl c13<|z2 (Gv.leq rfl rfl)<|z2 (zPt rfl c13 rfl)<|z2 (zMb rfl)<|zr (s := 13) rfl (fun c14=>?_) (fun c14=>?_)
   ·refine z8 rfl rfl c14<|z2 (zq underlying75 rfl sizeOf2 (by decide) rfl rfl)<|z8 rfl rfl c14<|z2 (zu (c := .int _ _) isAgg2 rfl ⟨_, .t1⟩ rfl)<|z8 rfl rfl c14<|z2 (q0 rfl rfl)<|z2 (zPt rfl c14 rfl)<|z6 ?_
    exact ⟨_, zR3, zR1, zLe, by simp_all [m64] <;> omega⟩
   ·refine z7 rfl rfl c14<|z7 rfl rfl c14<|z7 rfl rfl c14<|z2 (zPf rfl c14 rfl)<|z6 ?_
    exact ⟨_, zR3, zR1, zLe, by simp_all [m64] <;> omega⟩
  ·refine z7 rfl rfl c13<|z7 rfl rfl c13<|z7 rfl rfl c13<|z2 (zPf rfl c13 rfl)<|z2 (zMb rfl)<|z7 rfl rfl rfl<|z7 rfl rfl rfl<|z7 rfl rfl rfl<|z2 (zPf rfl rfl rfl)<|z6 ?_
   exact ⟨_, zR3, zR1, zLe, by simp_all [m64] <;> omega⟩
 ·rintro u hu
  subst hu
  refine zl rfl (fun cn=>?_) (fun cn=>?_)
  ·refine zSr<|z2 (zx (cps := [(0, [_]), (1, [_])]) (rs := [_, _]) pl75 rfl rfl rfl)<|zc sizeOf75 rfl rfl rfl rfl rfl rfl .head rfl<|z6<|zd<|y8 rfl ⟨_, .head⟩ isAgg75 sizeOf75 rfl ?_
   rw [divQ, if_pos cn]; try rfl
  ·rw [divQ, if_neg cn]
   have hfit : ∀ {x y : Int}, (x = a.1 ∨ x = a.2) → (b.1 ≤ y ∧ y ≤ b.2) → fitD x y = true := fun hx hy => div_fits na ha cn hx hy
   refine zf<|za<|zi<|za<|yb (γ := Bool) [2, 3, 4] (fun u => [(19, .bool u)]) (fun u => [(i4, .cells 75 [.int .i64 0, .int .i64 0]), (i3, .cells 75 (encZ b))]) (fun u => u = decide (b.1 = 0 ∧ b.2 = 0)) ?_ (fun _ _ h => h) ?_
   ·refine zRg<|z2 (zq underlying75 rfl sizeOf2 (by decide) rfl rfl)<|z2 (zu (c := .int _ _) isAgg2 rfl ⟨_, .t1⟩ rfl)<|z2 (zw rfl rfl)<|z2 (zMb rfl)<|zr (s := 23) rfl (fun c15=>?_) (fun c15=>?_)
    ·refine z8 rfl rfl c15<|z2 (zq underlying75 rfl sizeOf2 (by decide) rfl rfl)<|z8 rfl rfl c15<|z2 (zu (c := .int _ _) isAgg2 rfl ⟨_, .t1⟩ rfl)<|z8 rfl rfl c15<|z2 (zw rfl rfl)<|z2 (zPt rfl c15 rfl)<|z2 (zAb rfl)<|z6 ?_
     exact ⟨_, zR3, zR1, zLe, by simp_all⟩
    ·refine z7 rfl rfl c15<|z7 rfl rfl c15<|z7 rfl rfl c15<|z2 (zPf rfl c15 rfl)<|z2 (zAb rfl)<|z6 ?_
     exact ⟨_, zR3, zR1, zLe, by simp_all⟩
   ·rintro u hu
    subst hu
    refine zl rfl (fun cz=>?_) (fun cz=>?_)
    ·refine zSr<|z2 (zx (cps := [(0, [_])]) (rs := [_, .int .i64 0]) pl75 rfl rfl rfl)<|zc sizeOf75 rfl rfl rfl rfl rfl rfl .head rfl<|z6<|zd<|y8 rfl ⟨_, .head⟩ isAgg75 sizeOf75 rfl ?_
     rw [if_pos cz]; try rfl
    ·rw [if_neg cz]
     refine zSr<|z2 (zq underlying75 rfl sizeOf2 (by decide) rfl rfl)<|z2 (zu (c := .int _ _) isAgg2 rfl ⟨_, .t1⟩ rfl)<|z2 (q0 rfl rfl)<|z2 (zAb rfl)<|z6<|zl rfl (fun cp=>?_) (fun cp=>?_)
     ·rw [if_pos cp]
      refine za<|zSr<|z2 (zq underlying75 rfl sizeOf2 (by decide) rfl rfl)<|z2 (zu (c := .int _ _) isAgg2 rfl ⟨_, .t1⟩ rfl)<|z2 (zw rfl rfl)<|z6<|zl rfl (fun c0=>?_) (fun c0=>?_)
      ·refine zRg<|z2 (zq underlying75 rfl sizeOf2 (by decide) rfl rfl)<|yu (l := [_]) (new := [_, _]) sizeOf2 rfl rfl rfl rfl rfl rfl .t1 rfl rfl<|z6<|zSr<|z2 (zh isAgg75 sizeOf75 rfl rfl)<|z2 (yp isAgg75 sizeOf75 rfl ⟨_, .t1⟩ rfl)<|zb (rQuo (b := (1, b.2)) ha (show (1 : Int) ≠ 0 by decide) (show b.2 ≠ 0 by omega) (hfit (.inl rfl) (by omega)) (hfit (.inl rfl) (by omega)) (hfit (.inr rfl) (by omega)) (hfit (.inr rfl) (by omega))) rfl<|zc sizeOf75 rfl rfl rfl rfl rfl rfl .head rfl<|z6<|zd<|y8 rfl ⟨_, .head⟩ isAgg75 sizeOf75 rfl ?_
       rw [if_pos c0]; try rfl
      ·refine zf<|zSr<|z2 (zh isAgg75 sizeOf75 rfl rfl)<|z2 (yp isAgg75 sizeOf75 rfl ⟨_, .t1⟩ rfl)<|zb (rQuo ha (show b.1 ≠ 0 by omega) (show b.2 ≠ 0 by omega) (hfit (.inl rfl) (by omega)) (hfit (.inl rfl) (by omega)) (hfit (.inr rfl) (by omega)) (hfit (.inr rfl) (by omega))) rfl<|zc sizeOf75 rfl rfl rfl rfl rfl rfl .head rfl<|z6<|zd<|y8 rfl ⟨_, .head⟩ isAgg75 sizeOf75 rfl ?_
       rw [if_neg c0]; try rfl
     ·rw [if_neg cp]
      refine zSr<|z2 (zq underlying75 rfl sizeOf2 (by decide) rfl rfl)<|z2 (zu (c := .int _ _) isAgg2 rfl ⟨_, .t1⟩ rfl)<|z2 (Gv.leq rfl rfl)<|z2 (zAb rfl)<|z6<|zl rfl (fun cq=>?_) (fun cq=>?_)
      ·rw [if_pos cq]
       refine za<|zSr<|z2 (zq underlying75 rfl sizeOf2 (by decide) rfl rfl)<|z2 (zu (c := .int _ _) isAgg2 rfl ⟨_, .t1⟩ rfl)<|z2 (zw rfl rfl)<|z6<|zl rfl (fun c0=>?_) (fun c0=>?_)
       ·refine zRg<|z2 (zq underlying75 rfl sizeOf2 (by decide) rfl rfl)<|yu (l := [_]) (new := [_, _]) sizeOf2 rfl rfl rfl rfl rfl rfl .t1 rfl rfl<|z6<|zSr<|z2 (zh isAgg75 sizeOf75 rfl rfl)<|z2 (yp isAgg75 sizeOf75 rfl ⟨_, .t1⟩ rfl)<|zb (rQuo (b := (b.1, -1)) ha (show b.1 ≠ 0 by omega) (show (-1 : Int) ≠ 0 by decide) (hfit (.inl rfl) (by omega)) (hfit (.inl rfl) (by omega)) (hfit (.inr rfl) (by omega)) (hfit (.inr rfl) (by omega))) rfl<|zc sizeOf75 rfl rfl rfl rfl rfl rfl .head rfl<|z6<|zd<|y8 rfl ⟨_, .head⟩ isAgg75 sizeOf75 rfl ?_
        rw [if_pos c0]; try rfl
       ·refine zf<|zSr<|z2 (zh isAgg75 sizeOf75 rfl rfl)<|z2 (yp isAgg75 sizeOf75 rfl ⟨_, .t1⟩ rfl)<|zb (rQuo ha (show b.1 ≠ 0 by omega) (show b.2 ≠ 0 by omega) (hfit (.inl rfl) (by omega)) (hfit (.inl rfl) (by omega)) (hfit (.inr rfl) (by omega)) (hfit (.inr rfl) (by omega))) rfl<|zc sizeOf75 rfl rfl rfl rfl rfl rfl .head rfl<|z6<|zd<|y8 rfl ⟨_, .head⟩ isAgg75 sizeOf75 rfl ?_
        rw [if_neg c0]; try rfl
      ·rw [if_neg cq]
       refine zf<|za<|zt (fun j => Nat.beq j 11) (by kernel_rfl) rfl (zp (.l (.r (.rest _))))<|zTk 0 rfl (zh isAgg75 sizeOf75 rfl rfl)<|zTk 1 rfl (zq underlying75 rfl sizeOf2 (by decide) rfl rfl)<|zTk 2 rfl (zu (c := .int _ _) isAgg2 rfl ⟨_, .head⟩ rfl)<|zTk 3 rfl (zx (cps := [(0, [_]), (1, [_])]) (rs := [_, _]) pl75 rfl rfl rfl)<|zTk 5 rfl (zh isAgg75 sizeOf75 rfl rfl)<|zTk 6 rfl (zq underlying75 rfl sizeOf2 (by decide) rfl rfl)<|zTk 7 rfl (zu (c := .int _ _) isAgg2 rfl ⟨_, .head⟩ rfl)<|zTk 8 rfl (zx (cps := [(0, [_]), (1, [_])]) (rs := [_, _]) pl75 rfl rfl rfl)<|zOn 4 rfl<|zb (rQuo (b := (b.1, -1)) ha (show b.1 ≠ 0 by omega) (show (-1 : Int) ≠ 0 by decide) (hfit (.inl rfl) (by omega)) (hfit (.inl rfl) (by omega)) (hfit (.inr rfl) (by omega)) (hfit (.inr rfl) (by omega))) rfl<|z6<|zOn 9 rfl<|zb (rQuo (b := (1, b.2)) ha (show (1 : Int) ≠ 0 by decide) (show b.2 ≠ 0 by omega) (hfit (.inl rfl) (by omega)) (hfit (.inl rfl) (by omega)) (hfit (.inr rfl) (by omega)) (hfit (.inr rfl) (by omega))) rfl<|z6<|zOn 10 rfl<|zb (rWide _ _) rfl<|z6<|yf<|yl (i := 11) rfl (by kernel_rfl) (by kernel_rfl)<|zc sizeOf75 rfl rfl rfl rfl rfl rfl .t1 rfl<|z6<|yh (by kernel_rfl)<|zd<|y8 rfl ⟨_, .t1⟩ isAgg75 sizeOf75 rfl ?_
       rfl
theorem rRem {a b : Rng} (hb : ok64 b) : AFun prog E 127 [.agg (encZ a), .agg (encZ b)] (.agg (encZ (remQ a b))) := by
 refine zn func127 rfl (by decide) rfl<|zSr<|y1 (cs := _) rfl rfl rfl<|y1 (cs := _) rfl rfl rfl<|zo (cs := [.int .i64 0, .int .i64 0]) zeroValue75 rfl rfl<|fun i4 => z6<|za<|za<|yb (γ := Bool) [2, 3, 4] (fun u => [(17, .bool u)]) (fun u => [(i4, .cells 75 [.int .i64 0, .int .i64 0])]) (fun u => u = decide (b.1 = 0 ∧ b.2 = 0)) ?_ (fun _ _ h => h) ?_
 ·refine zRg<|z2 (zFF underlying75 rfl sizeOf2 rfl rfl)<|z2 (zLi isAgg2 rfl)<|z2 (zw rfl rfl)<|z2 (zMb rfl)<|zr (s := 13) rfl (fun c16=>?_) (fun c16=>?_)
  ·refine z8 rfl rfl c16<|z2 (zFF underlying75 rfl sizeOf2 rfl rfl)<|z8 rfl rfl c16<|z2 (zLi isAgg2 rfl)<|z8 rfl rfl c16<|z2 (zw rfl rfl)<|z2 (zPt rfl c16 rfl)<|z6 ?_
   exact ⟨_, zR3, zR1, zLe, by simp_all⟩
  ·refine z7 rfl rfl c16<|z7 rfl rfl c16<|z7 rfl rfl c16<|z2 (zPf rfl c16 rfl)<|z6 ?_
   exact ⟨_, zR3, zR1, zLe, by simp_all⟩
 ·rintro u hu
  subst hu
  refine zl rfl (fun cn=>?_) (fun cn=>?_)
  ·refine zSr<|z2 (zx (cps := [(0, [_])]) (rs := [_, .int .i64 0]) pl75 rfl rfl rfl)<|zc sizeOf75 rfl rfl rfl rfl rfl rfl .head rfl<|z6<|zd<|y8 rfl ⟨_, .head⟩ isAgg75 sizeOf75 rfl ?_
   rw [remQ, if_pos cn]; try rfl
  ·have hfar := far_rng hb cn
   rw [remQ, if_neg cn]
   refine zf<|za<|zt (fun j => false) (by kernel_rfl) rfl (zp (.rest _))<|zTk 0 rfl (zFF underlying75 rfl sizeOf2 rfl rfl)<|zTk 1 rfl (zLi isAgg2 rfl)<|zTk 2 rfl (q7 underlying2 underlying232 rfl)<|zTk 3 rfl (zFF underlying75 rfl sizeOf2 rfl rfl)<|zTk 4 rfl (zLi isAgg2 rfl)<|zTk 5 rfl (q7 underlying2 underlying232 rfl)<|zTk 6 rfl (zAi rfl)<|zTk 7 rfl (zAi rfl)<|zDn<|za<|zSr<|z2 (zFF underlying75 rfl sizeOf2 rfl rfl)<|z2 (zLi isAgg2 rfl)<|z2 (y7 rfl rfl)<|z6<|yb (γ := Int) [2, 3, 4, 6] (fun u => [(5, .int .u64 u)]) (fun u => [(i4, .cells 75 [.int .i64 0, .int .i64 0])]) (fun u => u = (b.1.natAbs : Int)) ?_ (fun _ _ h => h) ?_
   ·refine zl rfl (fun c=>?_) (fun c=>?_)
    ·refine zRg<|z2 (zMi rfl)<|z2 (Gv.neg rfl)<|z2 (zAi rfl)<|z6 ?_
     exact ⟨_, zR4, zR1, zLe, by have := abs_wrap hb.1; rwa [if_pos c] at this⟩
    ·refine zf ?_
     exact ⟨_, zR4, zR1, zLe, by have := abs_wrap hb.1; rwa [if_neg c] at this⟩
   ·rintro u hu
    subst hu
    refine za<|zSr<|z2 (zFF underlying75 rfl sizeOf2 rfl rfl)<|z2 (zLi isAgg2 rfl)<|z2 (y7 rfl rfl)<|z6<|yb (γ := Int) [2, 4, 5] (fun u => [(6, .int .u64 u)]) (fun u => [(i4, .cells 75 [.int .i64 0, .int .i64 0])]) (fun u => u = (b.2.natAbs : Int)) ?_ (fun _ _ h => h) ?_
    ·refine zl rfl (fun c=>?_) (fun c=>?_)
     ·refine zRg<|z2 (zMi rfl)<|z2 (Gv.neg rfl)<|z2 (zAi rfl)<|z6 ?_
      exact ⟨_, zR3, zR1, zLe, by have := abs_wrap hb.2; rwa [if_pos c] at this⟩
     ·refine zf ?_
      exact ⟨_, zR3, zR1, zLe, by have := abs_wrap hb.2; rwa [if_neg c] at this⟩
    ·rintro u hu
     subst hu
     refine za<|zSr<|z2 (zMi rfl)<|z2 (zMi rfl)<|z2 (yq rfl rfl)<|z6<|yb (γ := Int) [2, 4] (fun u => [(5, .int .u64 u)]) (fun u => [(i4, .cells 75 [.int .i64 0, .int .i64 0])]) (fun u => u = (if (b.1.natAbs : Int) < (b.2.natAbs : Int) then (b.2.natAbs : Int) else (b.1.natAbs : Int))) ?_ (fun _ _ h => h) ?_
     ·refine zl rfl (fun c=>?_) (fun c=>?_)
      ·refine zRg<|z2 (zMi rfl)<|z2 (zAi rfl)<|z6 ?_
       exact ⟨_, zR2, zR1, zLe, by rw [if_pos c]⟩
      ·refine zf ?_
       exact ⟨_, zR2, zR1, zLe, by rw [if_neg c]⟩
     ·rintro u hu
      subst hu
      refine za<|yb (γ := Int) [2, 4] (fun k => [(7, .int .i64 k)]) (fun k => [(i4, .cells 75 [.int .i64 0, .int .i64 0])]) (fun k => k = far b) ?_ (fun _ _ h => h) ?_
      ·refine zRg<|z2 (zMi rfl)<|z2 (Gv.subW rfl rfl)<|z2 (q7 underlying232 underlying2 rfl)<|z2 (zAi rfl)<|z6 ?_
       exact ⟨_, zR2, zR1, zLe, far_wrap hb cn⟩
      ·rintro k hk
       subst hk
       refine zSr<|z2 (zAi rfl)<|z2 (zAi rfl)<|z6<|za<|zSr<|z2 (zFF underlying75 rfl sizeOf2 rfl rfl)<|z2 (zLi isAgg2 rfl)<|z2 (y7 rfl rfl)<|z6<|yb (γ := Int) [2, 4, 7, 9] (fun x => [(8, .int .i64 x)]) (fun x => [(i4, .cells 75 [.int .i64 0, .int .i64 0])]) (fun x => x = if a.1 < 0 then imax (-(far b)) a.1 else 0) ?_ (fun _ _ h => h) ?_
       ·have hneg : IntKind.i64.wrap (0 - far b) = -(far b) := by rw [wrap_fit (by unfold is64; omega)]; omega
        refine zl rfl (fun c1=>?_) (fun c1=>?_)
        ·refine zSr<|z2 (zMi rfl)<|z2 (Gv.neg rfl)<|z2 (zAi rfl)<|z6<|zSr<|z2 (zFF underlying75 rfl sizeOf2 rfl rfl)<|z2 (zLi isAgg2 rfl)<|z2 (zMi rfl)<|z2 (yq rfl rfl)<|z6<|zl rfl (fun c2=>?_) (fun c2=>?_)
         ·refine zRg<|z2 (zFF underlying75 rfl sizeOf2 rfl rfl)<|z2 (zLi isAgg2 rfl)<|z2 (zAi rfl)<|z6 ?_
          exact ⟨_, zR4, zR1, zLe, by rw [if_pos c1, imax, if_pos (by omega)]⟩
         ·refine zf ?_
          exact ⟨_, zR4, zR1, zLe, by rw [if_pos c1, imax, if_neg (by omega)]; exact hneg⟩
        ·refine zf ?_
         exact ⟨_, zR4, zR1, zLe, by rw [if_neg c1]⟩
       ·rintro x hx
        rw [← hx]
        refine za<|zSr<|z2 (zFF underlying75 rfl sizeOf2 rfl rfl)<|z2 (zLi isAgg2 rfl)<|z2 (yq rfl rfl)<|z6<|yb (γ := Int) [4, 8] (fun y => [(9, .int .i64 y)]) (fun y => [(i4, .cells 75 [.int .i64 0, .int .i64 0])]) (fun y => y = if 0 < a.2 then imin (far b) a.2 else 0) ?_ (fun _ _ h => h) ?_
        ·refine zl rfl (fun c1=>?_) (fun c1=>?_)
         ·refine zSr<|z2 (zMi rfl)<|z2 (zAi rfl)<|z6<|zSr<|z2 (zFF underlying75 rfl sizeOf2 rfl rfl)<|z2 (zLi isAgg2 rfl)<|z2 (zMi rfl)<|z2 (y7 rfl rfl)<|z6<|zl rfl (fun c2=>?_) (fun c2=>?_)
          ·refine zRg<|z2 (zFF underlying75 rfl sizeOf2 rfl rfl)<|z2 (zLi isAgg2 rfl)<|z2 (zAi rfl)<|z6 ?_
           exact ⟨_, zR2, zR1, zLe, by rw [if_pos c1, imin, if_pos c2]⟩
          ·refine zf ?_
           exact ⟨_, zR2, zR1, zLe, by rw [if_pos c1, imin, if_neg c2]⟩
         ·refine zf ?_
          exact ⟨_, zR2, zR1, zLe, by rw [if_neg c1]⟩
        ·rintro y hy
         rw [← hy]
         refine zSr<|z2 (zMi rfl)<|z2 (zMi rfl)<|z2 (zx (cps := [(0, [_]), (1, [_])]) (rs := [_, _]) pl75 rfl rfl rfl)<|zc sizeOf75 rfl rfl rfl rfl rfl rfl .head rfl<|z6<|zd<|y8 rfl ⟨_, .head⟩ isAgg75 sizeOf75 rfl ?_
         rfl
theorem rCut (num : Int) {a b : Rng} (hb : ok64 b) : AFun prog E 129 [.int .i64 num, .agg (encZ a), .agg (encZ b)] (.agg (encZ (cutQ num a b))) := by
 have hb1 := hb.1; have hb2 := hb.2
 unfold is64 at hb1 hb2
 have hm : m64 = -9223372036854775808 := rfl
 have hM : M64 = 9223372036854775807 := rfl
 rw [cutQ]
 refine zn func129 rfl (by decide) rfl<|zSr<|y1 (cs := _) rfl rfl rfl<|y1 (cs := _) rfl rfl rfl<|zo (cs := [.int .i64 0, .int .i64 0]) zeroValue75 rfl rfl<|fun i6 => z6<|za<|zSr<|z2 (zMi rfl)<|z6<|zi<|zSr<|z2 (zw rfl rfl)<|z2 (zAb rfl)<|z6<|zl rfl (fun c0=>?_) (fun c0=>?_)
 ·refine za<|zSr<|z2 (zFF underlying75 rfl sizeOf2 rfl rfl)<|z2 (zLi isAgg2 rfl)<|z2 (zw rfl rfl)<|z6<|zl rfl (fun cm=>?_) (fun cm=>?_)
  ·refine zSr<|zb (rNone) rfl<|zc sizeOf75 rfl rfl rfl rfl rfl rfl .head rfl<|z6<|zd<|y8 rfl ⟨_, .head⟩ isAgg75 sizeOf75 rfl ?_
   rw [if_pos c0, if_pos (show b.2 = m64 from cm)]; try rfl
  ·refine zf<|zSr<|z2 (zh isAgg75 sizeOf75 rfl rfl)<|z2 (zFF underlying75 rfl sizeOf2 rfl rfl)<|z2 (zLi isAgg2 rfl)<|z2 (Gv.sub rfl rfl (by unfold I64; omega))<|z2 (zx (cps := [(0, [_]), (1, [_])]) (rs := [_, _]) pl75 rfl rfl rfl)<|zb (rMeet_s a (m64, b.2 - 1)) rfl<|zc sizeOf75 rfl rfl rfl rfl rfl rfl .head rfl<|z6<|zd<|y8 rfl ⟨_, .head⟩ isAgg75 sizeOf75 rfl ?_
   rw [if_pos c0, if_neg (show ¬ b.2 = m64 from cm)]; try rfl
 ·rw [if_neg c0]
  refine zSr<|z2 (zw rfl rfl)<|z2 (zAb rfl)<|z6<|zl rfl (fun c1=>?_) (fun c1=>?_)
  ·refine zSr<|z2 (zh isAgg75 sizeOf75 rfl rfl)<|z2 (zFF underlying75 rfl sizeOf2 rfl rfl)<|z2 (zLi isAgg2 rfl)<|z2 (zx (cps := [(0, [_]), (1, [_])]) (rs := [_, _]) pl75 rfl rfl rfl)<|zb (rMeet_s a (m64, b.2)) rfl<|zc sizeOf75 rfl rfl rfl rfl rfl rfl .head rfl<|z6<|zd<|y8 rfl ⟨_, .head⟩ isAgg75 sizeOf75 rfl ?_
   rw [if_pos c1]; try rfl
  ·rw [if_neg c1]
   refine zSr<|z2 (zw rfl rfl)<|z2 (zAb rfl)<|z6<|zl rfl (fun c2=>?_) (fun c2=>?_)
   ·refine zSr<|z2 (zh isAgg75 sizeOf75 rfl rfl)<|z2 (zh isAgg75 sizeOf75 rfl rfl)<|zb (rMeet_s a b) rfl<|zc sizeOf75 rfl rfl rfl rfl rfl rfl .head rfl<|z6<|zd<|y8 rfl ⟨_, .head⟩ isAgg75 sizeOf75 rfl ?_
    rw [if_pos c2]; try rfl
   ·rw [if_neg c2]
    refine zSr<|z2 (zw rfl rfl)<|z2 (zAb rfl)<|z6<|zl rfl (fun c3=>?_) (fun c3=>?_)
    ·refine zSr<|z2 (zh isAgg75 sizeOf75 rfl rfl)<|z2 (zFF underlying75 rfl sizeOf2 rfl rfl)<|z2 (zLi isAgg2 rfl)<|z2 (zx (cps := [(0, [_]), (1, [_])]) (rs := [_, _]) pl75 rfl rfl rfl)<|zb (rMeet_s a (b.1, M64)) rfl<|zc sizeOf75 rfl rfl rfl rfl rfl rfl .head rfl<|z6<|zd<|y8 rfl ⟨_, .head⟩ isAgg75 sizeOf75 rfl ?_
     rw [if_pos c3]; try rfl
    ·rw [if_neg c3]
     refine zSr<|z2 (zw rfl rfl)<|z2 (zAb rfl)<|z6<|zl rfl (fun c4=>?_) (fun c4=>?_)
     ·refine za<|zSr<|z2 (zFF underlying75 rfl sizeOf2 rfl rfl)<|z2 (zLi isAgg2 rfl)<|z2 (zw rfl rfl)<|z6<|zl rfl (fun cm=>?_) (fun cm=>?_)
      ·refine zSr<|zb (rNone) rfl<|zc sizeOf75 rfl rfl rfl rfl rfl rfl .head rfl<|z6<|zd<|y8 rfl ⟨_, .head⟩ isAgg75 sizeOf75 rfl ?_
       rw [if_pos c4, if_pos (show b.1 = M64 from cm)]; try rfl
      ·refine zf<|zSr<|z2 (zh isAgg75 sizeOf75 rfl rfl)<|z2 (zFF underlying75 rfl sizeOf2 rfl rfl)<|z2 (zLi isAgg2 rfl)<|z2 (zAd rfl rfl)<|z2 (zx (cps := [(0, [_]), (1, [_])]) (rs := [_, _]) pl75 rfl rfl rfl)<|zb (rMeet_s a (b.1 + 1, M64)) rfl<|zc sizeOf75 rfl rfl rfl rfl rfl rfl .head rfl<|z6<|zd<|y8 rfl ⟨_, .head⟩ isAgg75 sizeOf75 rfl ?_
       rw [if_pos c4, if_neg (show ¬ b.1 = M64 from cm)]; try rfl
     ·refine zf<|zSr<|z2 (zh isAgg75 sizeOf75 rfl rfl)<|zc sizeOf75 rfl rfl rfl rfl rfl rfl .head rfl<|z6<|zd<|y8 rfl ⟨_, .head⟩ isAgg75 sizeOf75 rfl ?_
      rw [if_neg c4]; try rfl
end Go.Proofs.YtjnpcfpecilejaaGreatDoor
