/- A block of numbers that is looked at by its place: slices of it, copies within it. No conditions but bounds. -/
import Derived.Test.YtjnpcfpecilejaaGreatDoorHe
import Derived.Test.YtjnpcfpecilejaaGreatDoorHd
import Derived.Test.YtjnpcfpecilejaaGreatDoorHc
import Derived.Laws.CopyRow
set_option linter.unusedVariables false
set_option linter.unusedSimpArgs false
set_option linter.unusedSectionVars false
namespace Go.Proofs.YtjnpcfpecilejaaGreatDoor
open Go.Proofs.Tryz
open Go.Proofs
theorem wrap_fit {z : Int} (h : is64 z) : IntKind.i64.wrap z = z := by
 unfold is64 at h
 unfold IntKind.wrap; simp [IntKind.bits, IntKind.signed]; omega
def selR (a : Rng) (i : Nat) : Int := if i = 0 then a.1 else a.2
theorem sel_ok {a : Rng} (h : ok64 a) (i : Nat) : is64 (selR a i) := by unfold selR; split; exact h.1; exact h.2
theorem sel_get {a : Rng} {i : Nat} (h : i < 2) : ([AV.int .i64 a.1, AV.int .i64 a.2] : List AV)[i]? = some (.int .i64 (selR a i)) := by
 rcases (by omega : i = 0 ∨ i = 1) with rfl | rfl <;> rfl
def hSt (n : Int → Int → Int) (fit : Int → Int → Bool) (e : Int → Int → Int) (h0 : Rng × Bool) (a b : Rng) : Nat → Rng × Bool
 | 0 => h0
 | m + 1 => hAdd (hSt n fit e h0 a b m) (n (selR a (m / 2)) (selR b (m % 2))) (fit (selR a (m / 2)) (selR b (m % 2))) (e (selR a (m / 2)) (selR b (m % 2)))
theorem hSt_step {n : Int → Int → Int} {fit : Int → Int → Bool} {e : Int → Int → Int} {h0 : Rng × Bool} {a b : Rng} (i : Nat) {j : Nat} (hj : j < 2) :
  hSt n fit e h0 a b (2 * i + (j + 1)) = hAdd (hSt n fit e h0 a b (2 * i + j)) (n (selR a i) (selR b j)) (fit (selR a i) (selR b j)) (e (selR a i) (selR b j)) := by
 rw [← Nat.add_assoc, hSt, show (2 * i + j) / 2 = i by omega, show (2 * i + j) % 2 = j by omega]
theorem hAdd_fit {h : Rng × Bool} {n n' : Int} {fits : Bool} {e e' : Int} (h1 : fits = true → n = n') (h2 : e = e') : hAdd h n fits e = hAdd h n' fits e' := by
 cases fits
 ·unfold hAdd; simp [h2]
 ·rw [h1 rfl, h2]
theorem add_fit {x y : Int} : decide (fit3 0 x y) = true → IntKind.i64.wrap (x + y) = op3 0 x y := fun h => wrap_fit (qz h)
theorem sub_fit {x y : Int} : decide (fit3 1 x y) = true → IntKind.i64.wrap (x - y) = op3 1 x y := fun h => wrap_fit (qz h)
theorem mul_fit3 {x y : Int} : decide (fit3 2 x y) = true → IntKind.i64.wrap (x * y) = op3 2 x y := fun h => wrap_fit (qz h)
theorem sumB {x y : Int} (hx : is64 x) (hy : is64 y) : (!(decide (x < 0) == decide (y < 0)) || (decide (IntKind.i64.wrap (x + y) < 0) == decide (x < 0))) = decide (fit3 0 x y) := by
 have hw : IntKind.i64.wrap (x + y) = (if x + y < -9223372036854775808 then x + y + 18446744073709551616 else if 9223372036854775807 < x + y then x + y - 18446744073709551616 else x + y) := by
  unfold is64 at hx hy
  unfold IntKind.wrap; simp [IntKind.bits, IntKind.signed]; (repeat' split) <;> omega
 rw [hw, qs, w4]
 show _ ↔ is64 (x + y)
 unfold is64 at *
 simp only [Bool.or_eq_true, Bool.not_eq_true', beq_eq_false_iff_ne, beq_iff_eq, decide_eq_decide, ne_eq]
 (repeat' split) <;> omega
theorem subB {x y : Int} (hx : is64 x) (hy : is64 y) : ((decide (x < 0) == decide (y < 0)) || (decide (IntKind.i64.wrap (x - y) < 0) == decide (x < 0))) = decide (fit3 1 x y) := by
 have hw : IntKind.i64.wrap (x - y) = (if x - y < -9223372036854775808 then x - y + 18446744073709551616 else if 9223372036854775807 < x - y then x - y - 18446744073709551616 else x - y) := by
  unfold is64 at hx hy
  unfold IntKind.wrap; simp [IntKind.bits, IntKind.signed]; (repeat' split) <;> omega
 rw [hw, qs, w4]
 show _ ↔ is64 (x - y)
 unfold is64 at *
 simp only [Bool.or_eq_true, beq_iff_eq, decide_eq_decide]
 (repeat' split) <;> omega
theorem abs_wrap {x : Int} (h : is64 x) : (if x < 0 then IntKind.u64.wrap (0 - IntKind.u64.wrap x) else IntKind.u64.wrap x) = ((x.natAbs : Nat) : Int) := by
 unfold is64 at h
 unfold IntKind.wrap; simp [IntKind.bits, IntKind.signed]; split <;> omega
theorem abs_lt {x : Int} (h : is64 x) : x.natAbs < 18446744073709551616 := by unfold is64 at h; omega
theorem mulB {x y : Int} : (decide (((x.natAbs * y.natAbs / 18446744073709551616 : Nat) : Int) = 0) && decide (((x.natAbs * y.natAbs % 18446744073709551616 : Nat) : Int) ≤ (if (!(decide (x < 0) == decide (y < 0))) = true then 9223372036854775808 else 9223372036854775807))) = decide (fit3 2 x y) := by
 have hm := Int.natAbs_mul x y
 rw [qs, w4 (p := fit3 2 x y)]
 show _ ↔ is64 (x * y)
 unfold is64
 rw [← hm]
 have hs : (x < 0 ↔ y < 0) → 0 ≤ x * y := fun h => by
  by_cases hx : x < 0
  ·exact Int.le_of_lt (Int.mul_pos_of_neg_of_neg hx (h.1 hx))
  ·exact Int.mul_nonneg (by omega) (by have := mt h.2 hx; omega)
 have hd : ¬ (x < 0 ↔ y < 0) → x * y ≤ 0 := fun h => by
  by_cases hx : x < 0
  ·have hy : ¬ y < 0 := fun hy => h ⟨fun _ => hy, fun _ => hx⟩
   exact Int.mul_nonpos_of_nonpos_of_nonneg (by omega) (by omega)
  ·have hy : y < 0 := Classical.byContradiction fun hy => h ⟨fun h => absurd h hx, fun h => absurd h hy⟩
   exact Int.mul_nonpos_of_nonneg_of_nonpos (by omega) (by omega)
 generalize x * y = z at *
 simp only [qw, w4, Bool.not_eq_true', beq_eq_false_iff_ne, decide_eq_decide, ne_eq]
 by_cases c : (x < 0 ↔ y < 0)
 ·have := hs c
  rw [if_neg (by simp [c])]; omega
 ·have := hd c
  rw [if_pos c]; omega
theorem near_0 (x y : Int) : (if decide (x < 0) = true then m64 else M64) = near3 0 x y := rfl
theorem near_1 (x y : Int) : (if decide (x < 0) = true then m64 else M64) = near3 1 x y := rfl
theorem near_2 (x y : Int) : (if (!(decide (x < 0) == decide (y < 0))) = true then m64 else M64) = near3 2 x y := rfl
def encZ (r : Rng) : List AV := [.int .i64 r.1, .int .i64 r.2]
def encH (h : Rng × Bool) : List AV := [.int .i64 h.1.1, .int .i64 h.1.2, .bool h.2]
theorem aggR {r : Rng} {x y : Int} (h1 : x = r.1) (h2 : y = r.2) : AV.agg [.int .i64 x, .int .i64 y] = AV.agg (encZ r) := by subst h1 h2; rfl
end Go.Proofs.YtjnpcfpecilejaaGreatDoor
namespace Go.Proofs.YtjnpcfpecilejaaGreatDoor
open Go.Proofs.Tryz
open Go.Proofs
theorem pl74 : Places prog 74 #[(0, 1), (1, 1)] [.int .i64 0, .int .i64 0] := ⟨_, _, underlying74, zeroValue74, fun w => by kernel_rfl, rfl⟩
variable {E : World}
set_option maxRecDepth 20000
theorem iNone : AFun prog E 68 [] (.agg (encZ noR)) := by
 refine zo func68 rfl (by decide) rfl<|zSr<|zq (cs := [.int .i64 0, .int .i64 0]) zeroValue74 rfl rfl<|fun i0 => z6<|zSr<|z2 (y5 (cps := [(0, [_]), (1, [_])]) (rs := [_, _]) pl74 rfl rfl rfl)<|zm sizeOf74 rfl rfl rfl rfl rfl rfl .head rfl<|z6<|zf<|q0 rfl ⟨_, .head⟩ isAgg74 sizeOf74 rfl ?_
 rfl
theorem iOf (n : Int) : AFun prog E 74 [.int .i64 n] (.agg (encZ (rOf n))) := by
 refine zo func74 rfl (by decide) rfl<|zSr<|zq (cs := [.int .i64 0, .int .i64 0]) zeroValue74 rfl rfl<|fun i2 => z6<|zSr<|z2 (zMi rfl)<|z2 (zMi rfl)<|z2 (y5 (cps := [(0, [_]), (1, [_])]) (rs := [_, _]) pl74 rfl rfl rfl)<|zm sizeOf74 rfl rfl rfl rfl rfl rfl .head rfl<|z6<|zf<|q0 rfl ⟨_, .head⟩ isAgg74 sizeOf74 rfl ?_
 rfl
theorem iAll : AFun prog E 118 [] (.agg (encZ allR)) := by
 refine zo func118 rfl (by decide) rfl<|zSr<|zq (cs := [.int .i64 0, .int .i64 0]) zeroValue74 rfl rfl<|fun i0 => z6<|zSr<|z2 (y5 (cps := [(0, [_]), (1, [_])]) (rs := [_, _]) pl74 rfl rfl rfl)<|zm sizeOf74 rfl rfl rfl rfl rfl rfl .head rfl<|z6<|zf<|q0 rfl ⟨_, .head⟩ isAgg74 sizeOf74 rfl ?_
 rfl
theorem iType (t : Int) : AFun prog E 73 [.int .i64 t] (.agg (encZ (rType t))) := by
 refine zo func73 rfl (by decide) rfl<|zSr<|zq (cs := [.int .i64 0, .int .i64 0]) zeroValue74 rfl rfl<|fun i2 => z6<|za<|zSr<|z2 (zMi rfl)<|z6<|zh<|zSr<|z2 (y3 rfl rfl)<|z2 (zAb rfl)<|z6<|zr rfl (fun c1=>?_) (fun c1=>?_)
 ·refine zSr<|ze (iAll) rfl<|zm sizeOf74 rfl rfl rfl rfl rfl rfl .head rfl<|z6<|zf<|q0 rfl ⟨_, .head⟩ isAgg74 sizeOf74 rfl ?_
  exact aggR (by simp_all [rType, allR]) (by simp_all [rType, allR])
 ·refine zSr<|z2 (y3 rfl rfl)<|z2 (zAb rfl)<|z6<|zr rfl (fun c2=>?_) (fun c2=>?_)
  ·refine zSr<|z2 (y5 (cps := [(0, [_]), (1, [_])]) (rs := [_, _]) pl74 rfl rfl rfl)<|zm sizeOf74 rfl rfl rfl rfl rfl rfl .head rfl<|z6<|zf<|q0 rfl ⟨_, .head⟩ isAgg74 sizeOf74 rfl ?_
   exact aggR (by simp_all [rType, allR]) (by simp_all [rType, allR])
  ·refine zSr<|z2 (y3 rfl rfl)<|z2 (zAb rfl)<|z6<|zr rfl (fun c3=>?_) (fun c3=>?_)
   ·refine zSr<|z2 (y5 (cps := [(0, [_]), (1, [_])]) (rs := [_, _]) pl74 rfl rfl rfl)<|zm sizeOf74 rfl rfl rfl rfl rfl rfl .head rfl<|z6<|zf<|q0 rfl ⟨_, .head⟩ isAgg74 sizeOf74 rfl ?_
    exact aggR (by simp_all [rType, allR]) (by simp_all [rType, allR])
   ·refine zc<|zSr<|ze (iNone) rfl<|zm sizeOf74 rfl rfl rfl rfl rfl rfl .head rfl<|z6<|zf<|q0 rfl ⟨_, .head⟩ isAgg74 sizeOf74 rfl ?_
    exact aggR (by simp_all [rType, allR]) (by simp_all [rType, allR])
theorem iMade (lo hi : Int) : AFun prog E 131 [.int .i64 lo, .int .i64 hi] (.agg (encZ (rMade lo hi))) := by
 refine zo func131 rfl (by decide) rfl<|zSr<|zq (cs := [.int .i64 0, .int .i64 0]) zeroValue74 rfl rfl<|fun i4 => z6<|za<|zSr<|z2 (zMi rfl)<|z2 (zMi rfl)<|z2 (yv rfl rfl)<|z6<|zp rfl (fun c=>?_) (fun c=>?_)
 ·refine zSr<|ze (iNone) rfl<|zm sizeOf74 rfl rfl rfl rfl rfl rfl .head rfl<|z6<|zf<|q0 rfl ⟨_, .head⟩ isAgg74 sizeOf74 rfl ?_
  rw [rMade, if_pos c]; try rfl
 ·refine zc<|zSr<|z2 (zMi rfl)<|z2 (zMi rfl)<|z2 (y5 (cps := [(0, [_]), (1, [_])]) (rs := [_, _]) pl74 rfl rfl rfl)<|zm sizeOf74 rfl rfl rfl rfl rfl rfl .head rfl<|z6<|zf<|q0 rfl ⟨_, .head⟩ isAgg74 sizeOf74 rfl ?_
  rw [rMade, if_neg c]; try rfl
theorem iMeet (a b : Rng) : AFun prog E 81 [.agg (encZ a), .agg (encZ b)] (.agg (encZ (rMeet a b))) := by
 refine zo func81 rfl (by decide) rfl<|zSr<|y7 (cs := _) rfl rfl rfl<|y7 (cs := _) rfl rfl rfl<|zq (cs := [.int .i64 0, .int .i64 0]) zeroValue74 rfl rfl<|fun i4 => z6<|zSr<|z2 (zFF underlying74 rfl sizeOf2 rfl rfl)<|z2 (zLi isAgg2 rfl)<|z2 (zFF underlying74 rfl sizeOf2 rfl rfl)<|z2 (zLi isAgg2 rfl)<|z2 (Gv.maxI rfl rfl)<|z2 (zFF underlying74 rfl sizeOf2 rfl rfl)<|z2 (zLi isAgg2 rfl)<|z2 (zFF underlying74 rfl sizeOf2 rfl rfl)<|z2 (zLi isAgg2 rfl)<|z2 (Gv.minI rfl rfl)<|ze (iMade _ _) rfl<|zm sizeOf74 rfl rfl rfl rfl rfl rfl .head rfl<|z6<|zf<|q0 rfl ⟨_, .head⟩ isAgg74 sizeOf74 rfl ?_
 rfl
theorem iEmpty (r : Rng) : AFun prog E 82 [.agg (encZ r)] (.bool (decide (r.2 < r.1))) := by
 refine zo func82 rfl (by decide) rfl<|zSr<|y7 (cs := _) rfl rfl rfl<|z2 (zAb rfl)<|z6<|zSr<|z2 (zFF underlying74 rfl sizeOf2 rfl rfl)<|z2 (zLi isAgg2 rfl)<|z2 (zFF underlying74 rfl sizeOf2 rfl rfl)<|z2 (zLi isAgg2 rfl)<|z2 (yv rfl rfl)<|z2 (zAb rfl)<|z6<|zf<|zj (x := .bool _) rfl ?_
 rfl
theorem iHas (r : Rng) (n : Int) : AFun prog E 110 [.agg (encZ r), .int .i64 n] (.bool (decide (r.1 ≤ n) && decide (n ≤ r.2))) := by
 refine zo func110 rfl (by decide) rfl<|zSr<|y7 (cs := _) rfl rfl rfl<|z2 (zAb rfl)<|z6<|zSr<|z2 (zMi rfl)<|z2 (zFF underlying74 rfl sizeOf2 rfl rfl)<|z2 (zLi isAgg2 rfl)<|z2 (q9 rfl rfl)<|z2 (zMb rfl)<|zl (s := 9) rfl (fun c4=>?_) (fun c4=>?_)
 ·refine z8 rfl rfl c4<|z2 (zMi rfl)<|z8 rfl rfl c4<|z2 (zFF underlying74 rfl sizeOf2 rfl rfl)<|z8 rfl rfl c4<|z2 (zLi isAgg2 rfl)<|z8 rfl rfl c4<|z2 (Gv.leq rfl rfl)<|z2 (zPt rfl c4 rfl)<|z2 (zAb rfl)<|z6<|zf<|zj (x := .bool _) rfl ?_
  exact jb (by simp_all <;> omega)
 ·refine z7 rfl rfl c4<|z7 rfl rfl c4<|z7 rfl rfl c4<|z7 rfl rfl c4<|z2 (zPf rfl c4 rfl)<|z2 (zAb rfl)<|z6<|zf<|zj (x := .bool _) rfl ?_
  exact jb (by simp_all <;> omega)
def withinB (a b : Rng) : Bool := decide (a.2 < a.1 ∨ (b.1 ≤ a.1 ∧ a.2 ≤ b.2))
theorem iWithin (a b : Rng) : AFun prog E 66 [.agg (encZ a), .agg (encZ b)] (.bool (withinB a b)) := by
 refine zo func66 rfl (by decide) rfl<|zSr<|y7 (cs := _) rfl rfl rfl<|y7 (cs := _) rfl rfl rfl<|z2 (zAb rfl)<|z6<|zSr<|z2 (zk isAgg74 sizeOf74 rfl rfl)<|ze (iEmpty _) rfl<|z2 (zMb rfl)<|zl (s := 7) rfl (fun c5=>?_) (fun c5=>?_)
 ·refine z7 rfl rfl c5<|z7 rfl rfl c5<|z7 rfl rfl c5<|z7 rfl rfl c5<|z7 rfl rfl c5<|zb rfl rfl<|zb rfl rfl<|zb rfl rfl<|zb rfl rfl<|z7 rfl rfl c5<|z2 (zPt rfl c5 rfl)<|z2 (zAb rfl)<|z6<|zf<|zj (x := .bool _) rfl ?_
  exact jb (by unfold withinB; rw [qs]; simp_all <;> omega)
 ·refine z8 rfl rfl c5<|z2 (zk isAgg74 sizeOf74 rfl rfl)<|z8 rfl rfl c5<|z2 (zFF underlying74 rfl sizeOf2 rfl rfl)<|z8 rfl rfl c5<|z2 (zLi isAgg2 rfl)<|z8 rfl rfl c5<|ze (iHas _ _) rfl<|z8 rfl rfl c5<|z2 (zMb rfl)<|zl (s := 12) rfl (fun c6=>?_) (fun c6=>?_)
  ·refine z8 rfl rfl c6<|z2 (zk isAgg74 sizeOf74 rfl rfl)<|z8 rfl rfl c6<|z2 (zFF underlying74 rfl sizeOf2 rfl rfl)<|z8 rfl rfl c6<|z2 (zLi isAgg2 rfl)<|z8 rfl rfl c6<|ze (iHas _ _) rfl<|z8 rfl rfl c5<|z2 (zPt rfl c6 rfl)<|z2 (zPf rfl c5 rfl)<|z2 (zAb rfl)<|z6<|zf<|zj (x := .bool _) rfl ?_
   exact jb (by unfold withinB; rw [qs]; simp_all <;> omega)
  ·refine z7 rfl rfl c6<|z7 rfl rfl c6<|z7 rfl rfl c6<|z7 rfl rfl c6<|z8 rfl rfl c5<|z2 (zPf rfl c6 rfl)<|z2 (zPf rfl c5 rfl)<|z2 (zAb rfl)<|z6<|zf<|zj (x := .bool _) rfl ?_
   exact jb (by unfold withinB; rw [qs]; simp_all <;> omega)
theorem iJoin (a b : Rng) : AFun prog E 181 [.agg (encZ a), .agg (encZ b)] (.agg (encZ (rJoin a b))) := by
 refine zo func181 rfl (by decide) rfl<|zSr<|y7 (cs := _) rfl rfl rfl<|y7 (cs := _) rfl rfl rfl<|zq (cs := [.int .i64 0, .int .i64 0]) zeroValue74 rfl rfl<|fun i4 => z6<|za<|zh<|zSr<|z2 (zk isAgg74 sizeOf74 rfl rfl)<|ze (iEmpty _) rfl<|z2 (zAb rfl)<|z6<|zp rfl (fun c1=>?_) (fun c1=>?_)
 ·refine zSr<|z2 (zFF underlying74 rfl sizeOf2 rfl rfl)<|z2 (zLi isAgg2 rfl)<|z2 (zFF underlying74 rfl sizeOf2 rfl rfl)<|z2 (zLi isAgg2 rfl)<|ze (iMade _ _) rfl<|zm sizeOf74 rfl rfl rfl rfl rfl rfl .head rfl<|z6<|zf<|q0 rfl ⟨_, .head⟩ isAgg74 sizeOf74 rfl ?_
  rw [rJoin, if_pos c1]; try rfl
 ·refine zSr<|z2 (zk isAgg74 sizeOf74 rfl rfl)<|ze (iEmpty _) rfl<|z2 (zAb rfl)<|z6<|zp rfl (fun c2=>?_) (fun c2=>?_)
  ·refine zSr<|z2 (zk isAgg74 sizeOf74 rfl rfl)<|zm sizeOf74 rfl rfl rfl rfl rfl rfl .head rfl<|z6<|zf<|q0 rfl ⟨_, .head⟩ isAgg74 sizeOf74 rfl ?_
   rw [rJoin, if_neg c1, if_pos c2]; try rfl
  ·refine zc<|zSr<|z2 (zFF underlying74 rfl sizeOf2 rfl rfl)<|z2 (zLi isAgg2 rfl)<|z2 (zFF underlying74 rfl sizeOf2 rfl rfl)<|z2 (zLi isAgg2 rfl)<|z2 (Gv.minI rfl rfl)<|z2 (zFF underlying74 rfl sizeOf2 rfl rfl)<|z2 (zLi isAgg2 rfl)<|z2 (zFF underlying74 rfl sizeOf2 rfl rfl)<|z2 (zLi isAgg2 rfl)<|z2 (Gv.maxI rfl rfl)<|z2 (y5 (cps := [(0, [_]), (1, [_])]) (rs := [_, _]) pl74 rfl rfl rfl)<|zm sizeOf74 rfl rfl rfl rfl rfl rfl .head rfl<|z6<|zf<|q0 rfl ⟨_, .head⟩ isAgg74 sizeOf74 rfl ?_
   rw [rJoin, if_neg c1, if_neg c2]; try rfl
theorem iNear (b : Bool) : AFun prog E 235 [.bool b] (.int .i64 (if b = true then m64 else M64)) := by
 refine zo func235 rfl (by decide) rfl<|zSr<|z2 (zAi rfl)<|z6<|za<|zSr<|z2 (zMb rfl)<|z6<|zr rfl (fun c7=>?_) (fun c7=>?_)
 ·refine zSr<|z2 (zAi rfl)<|z6<|zf<|zj (x := .int _ _) rfl ?_
  simp_all [m64, M64]
 ·refine zc<|zSr<|z2 (zAi rfl)<|z6<|zf<|zj (x := .int _ _) rfl ?_
  simp_all [m64, M64]
theorem iSums (op : Int) : AFun prog E 217 [.int .i64 op] (.bool (decide (op = 2) || (decide (op = 3) || decide (op = 4)))) := by
 refine zo func217 rfl (by decide) rfl<|zSr<|z2 (zAb rfl)<|z6<|zSr<|z2 (zMi rfl)<|z2 (y3 rfl rfl)<|z2 (zMb rfl)<|zl (s := 5) rfl (fun c8=>?_) (fun c8=>?_)
 ·refine z7 rfl rfl c8<|z7 rfl rfl c8<|z2 (zPt rfl c8 rfl)<|z2 (zMb rfl)<|z7 rfl rfl rfl<|z7 rfl rfl rfl<|z2 (zPt rfl rfl rfl)<|z2 (zAb rfl)<|z6<|zf<|zj (x := .bool _) rfl ?_
  exact jb (by simp_all)
 ·refine z8 rfl rfl c8<|z2 (zMi rfl)<|z8 rfl rfl c8<|z2 (y3 rfl rfl)<|z2 (zPf rfl c8 rfl)<|z2 (zMb rfl)<|zl (s := 9) rfl (fun c9=>?_) (fun c9=>?_)
  ·refine z7 rfl rfl c9<|z7 rfl rfl c9<|z2 (zPt rfl c9 rfl)<|z2 (zAb rfl)<|z6<|zf<|zj (x := .bool _) rfl ?_
   exact jb (by simp_all)
  ·refine z8 rfl rfl c9<|z2 (zMi rfl)<|z8 rfl rfl c9<|z2 (y3 rfl rfl)<|z2 (zPf rfl c9 rfl)<|z2 (zAb rfl)<|z6<|zf<|zj (x := .bool _) rfl ?_
   exact jb (by simp_all)
theorem aAdd {x y : Int} (hx : is64 x) (hy : is64 y) : AFun prog E 223 [.int .i64 x, .int .i64 y] (.tup [.int .i64 (IntKind.i64.wrap (x + y)), .bool (decide (fit3 0 x y))]) := by
 rw [← sumB hx hy]
 refine zo func223 rfl (by decide) rfl<|zSr<|z2 (zAi rfl)<|z2 (zAb rfl)<|z6<|zSr<|z2 (zMi rfl)<|z2 (zMi rfl)<|z2 (Gv.addW rfl rfl)<|z2 (zAi rfl)<|z6<|zSr<|z2 (zMi rfl)<|z2 (zMi rfl)<|z2 (y8 rfl rfl)<|z2 (zMi rfl)<|z2 (y8 rfl rfl)<|z2 (Gv.neqB underlying4 rfl rfl)<|z2 (zMb rfl)<|zl (s := 16) rfl (fun c10=>?_) (fun c10=>?_)
 ·refine z7 rfl rfl c10<|z7 rfl rfl c10<|z7 rfl rfl c10<|z7 rfl rfl c10<|z7 rfl rfl c10<|z2 (zPt rfl c10 rfl)<|z2 (zAi rfl)<|z2 (zAb rfl)<|z6<|zf<|q7 (x := .int _ _) (y := .bool _) rfl rfl ?_
  simp_all
 ·refine z8 rfl rfl c10<|z2 (zMi rfl)<|z8 rfl rfl c10<|z2 (y8 rfl rfl)<|z8 rfl rfl c10<|z2 (zMi rfl)<|z8 rfl rfl c10<|z2 (y8 rfl rfl)<|z8 rfl rfl c10<|z2 (Gv.eqlB underlying4 rfl rfl)<|z2 (zPf rfl c10 rfl)<|z2 (zAi rfl)<|z2 (zAb rfl)<|z6<|zf<|q7 (x := .int _ _) (y := .bool _) rfl rfl ?_
  simp_all
theorem aSub {x y : Int} (hx : is64 x) (hy : is64 y) : AFun prog E 236 [.int .i64 x, .int .i64 y] (.tup [.int .i64 (IntKind.i64.wrap (x - y)), .bool (decide (fit3 1 x y))]) := by
 rw [← subB hx hy]
 refine zo func236 rfl (by decide) rfl<|zSr<|z2 (zAi rfl)<|z2 (zAb rfl)<|z6<|zSr<|z2 (zMi rfl)<|z2 (zMi rfl)<|z2 (Gv.subW rfl rfl)<|z2 (zAi rfl)<|z6<|zSr<|z2 (zMi rfl)<|z2 (zMi rfl)<|z2 (y8 rfl rfl)<|z2 (zMi rfl)<|z2 (y8 rfl rfl)<|z2 (Gv.eqlB underlying4 rfl rfl)<|z2 (zMb rfl)<|zl (s := 16) rfl (fun c11=>?_) (fun c11=>?_)
 ·refine z7 rfl rfl c11<|z7 rfl rfl c11<|z7 rfl rfl c11<|z7 rfl rfl c11<|z7 rfl rfl c11<|z2 (zPt rfl c11 rfl)<|z2 (zAi rfl)<|z2 (zAb rfl)<|z6<|zf<|q7 (x := .int _ _) (y := .bool _) rfl rfl ?_
  simp_all
 ·refine z8 rfl rfl c11<|z2 (zMi rfl)<|z8 rfl rfl c11<|z2 (y8 rfl rfl)<|z8 rfl rfl c11<|z2 (zMi rfl)<|z8 rfl rfl c11<|z2 (y8 rfl rfl)<|z8 rfl rfl c11<|z2 (Gv.eqlB underlying4 rfl rfl)<|z2 (zPf rfl c11 rfl)<|z2 (zAi rfl)<|z2 (zAb rfl)<|z6<|zf<|q7 (x := .int _ _) (y := .bool _) rfl rfl ?_
  simp_all
theorem aAbs {x : Int} (hx : is64 x) : AFun prog E 256 [.int .i64 x] (.int .u64 (x.natAbs : Int)) := by
 rw [← abs_wrap hx]
 refine zo func256 rfl (by decide) rfl<|zSr<|z2 (zAi rfl)<|z6<|za<|zSr<|z2 (zMi rfl)<|z2 (y8 rfl rfl)<|z6<|zp rfl (fun c=>?_) (fun c=>?_)
 ·refine zSr<|z2 (zMi rfl)<|z2 (Gv.conv underlying2 underlying232 rfl)<|z2 (Gv.neg rfl)<|z2 (zAi rfl)<|z6<|zf<|zj (x := .int _ _) rfl ?_
  rw [if_pos c]; try rfl
 ·refine zc<|zSr<|z2 (zMi rfl)<|z2 (Gv.conv underlying2 underlying232 rfl)<|z2 (zAi rfl)<|z6<|zf<|zj (x := .int _ _) rfl ?_
  rw [if_neg c]; try rfl
end Go.Proofs.YtjnpcfpecilejaaGreatDoor
namespace Go.Proofs.YtjnpcfpecilejaaGreatDoor
open Go.Proofs.Tryz
open Go.Proofs
theorem wrap_u (z : Int) : IntKind.u64.wrap z = z % 18446744073709551616 := by
 unfold IntKind.wrap; simp [IntKind.bits, IntKind.signed]
theorem fitU {x y : Int} (hx : is64 x) (hx0 : x ≠ 0) (hy0 : y ≠ 0) : decide ((x.natAbs : Int) ≤ IntKind.u64.wrap ((if (decide (x < 0) == decide (y < 0)) = true then 9223372036854775807 else 9223372036854775808 : Int).tdiv (y.natAbs : Int))) = decide (fit3 2 x y) := by
 rw [decide_eq_decide, ← fitMul x y hx0 hy0]
 obtain ⟨l, hl⟩ : ∃ l : Nat, (if decide (x < 0) = decide (y < 0) then 9223372036854775807 else 9223372036854775808) = l := ⟨_, rfl⟩
 have hl2 : (if (decide (x < 0) == decide (y < 0)) = true then 9223372036854775807 else 9223372036854775808 : Int) = (l : Int) := by
  rw [← hl]
  by_cases h : decide (x < 0) = decide (y < 0)
  ·rw [if_pos h, if_pos (by simpa using h)]; rfl
  ·rw [if_neg h, if_neg (by simpa using h)]; rfl
 have hll : l ≤ 9223372036854775808 := by rw [← hl]; split <;> omega
 rw [hl, hl2, show ((l : Int)).tdiv (y.natAbs : Int) = ((l / y.natAbs : Nat) : Int) from rfl, wrap_u]
 have h3 := Nat.div_le_self l y.natAbs
 generalize l / y.natAbs = q at h3 ⊢
 omega
end Go.Proofs.YtjnpcfpecilejaaGreatDoor
namespace Go.Proofs.YtjnpcfpecilejaaGreatDoor
open Go.Proofs.Tryz
open Go.Proofs
theorem pl75 : Places prog 75 #[(0, 1), (1, 1)] [.int .i64 0, .int .i64 0] := ⟨_, _, underlying75, zeroValue75, fun w => by kernel_rfl, rfl⟩
variable {E : World}
set_option maxRecDepth 20000
theorem rNone : AFun prog E 38 [] (.agg (encZ noR)) := by
 refine zo func38 rfl (by decide) rfl<|zSr<|zq (cs := [.int .i64 0, .int .i64 0]) zeroValue75 rfl rfl<|fun i0 => z6<|zSr<|z2 (y5 (cps := [(0, [_]), (1, [_])]) (rs := [_, _]) pl75 rfl rfl rfl)<|zm sizeOf75 rfl rfl rfl rfl rfl rfl .head rfl<|z6<|zf<|q0 rfl ⟨_, .head⟩ isAgg75 sizeOf75 rfl ?_
 rfl
theorem rType_s {t : Int} (ht : 0 ≤ t ∧ t ≤ 2) : AFun prog E 61 [.int .i64 t] (.agg (encZ (rType t))) := by
 refine zo func61 rfl (by decide) rfl<|zSr<|zq (cs := [.int .i64 0, .int .i64 0]) zeroValue75 rfl rfl<|fun i2 => z6<|za<|zSr<|z2 (zMi rfl)<|z6<|zh<|zSr<|z2 (y3 rfl rfl)<|z2 (zAb rfl)<|z6<|zp rfl (fun c1=>?_) (fun c1=>?_)
 ·refine zSr<|z2 (y5 (cps := [(1, [_])]) (rs := [.int .i64 0, _]) pl75 rfl rfl rfl)<|zm sizeOf75 rfl rfl rfl rfl rfl rfl .head rfl<|z6<|zf<|q0 rfl ⟨_, .head⟩ isAgg75 sizeOf75 rfl ?_
  rw [c1]; try rfl
 ·refine zSr<|z2 (y3 rfl rfl)<|z2 (zAb rfl)<|z6<|zp rfl (fun c2=>?_) (fun c2=>?_)
  ·refine zSr<|z2 (y5 (cps := [(1, [_])]) (rs := [.int .i64 0, _]) pl75 rfl rfl rfl)<|zm sizeOf75 rfl rfl rfl rfl rfl rfl .head rfl<|z6<|zf<|q0 rfl ⟨_, .head⟩ isAgg75 sizeOf75 rfl ?_
   rw [c2]; try rfl
  ·refine zc<|zSr<|z2 (y5 (cps := [(0, [_]), (1, [_])]) (rs := [_, _]) pl75 rfl rfl rfl)<|zm sizeOf75 rfl rfl rfl rfl rfl rfl .head rfl<|z6<|zf<|q0 rfl ⟨_, .head⟩ isAgg75 sizeOf75 rfl ?_
   rw [show t = 0 by omega]; try rfl
theorem rMeet_s (a b : Rng) : AFun prog E 60 [.agg (encZ a), .agg (encZ b)] (.agg (encZ (rMeet a b))) := by
 refine zo func60 rfl (by decide) rfl<|zSr<|yn (cs := _) rfl rfl rfl rfl<|fun i2 => y7 (cs := _) rfl rfl rfl<|zq (cs := [.int .i64 0, .int .i64 0]) zeroValue75 rfl rfl<|fun i4 => z6<|za<|zSr<|z2 (zFF underlying75 rfl sizeOf2 rfl rfl)<|z2 (zLi isAgg2 rfl)<|z2 (zu underlying75 rfl sizeOf2 (by decide) rfl rfl)<|z2 (zy (c := .int _ _) isAgg2 rfl ⟨_, .t1⟩ rfl)<|z2 (yv rfl rfl)<|z6<|yc (γ := Int) [2, 3, 4] (fun x => []) (fun x => [(i4, .cells 75 [.int .i64 0, .int .i64 0]), (i2, .cells 75 [.int .i64 x, .int .i64 a.2])]) (fun x => x = imax a.1 b.1) ?_ (fun _ _ h => h) ?_
 ·refine zp rfl (fun c=>?_) (fun c=>?_)
  ·refine zRg<|z2 (zFF underlying75 rfl sizeOf2 rfl rfl)<|z2 (zLi isAgg2 rfl)<|z2 (zu underlying75 rfl sizeOf2 (by decide) rfl rfl)<|qg (l := [_]) (new := [_, _]) sizeOf2 rfl rfl rfl rfl rfl rfl .t1 rfl rfl<|z6 ?_
   exact ⟨b.1, zR3, trivial, zLe, by rw [imax, if_pos c]⟩
  ·refine zc ?_
   exact ⟨a.1, zR3, trivial, zLe, by rw [imax, if_neg c]⟩
 ·rintro x hx
  refine za<|zSr<|z2 (zFF underlying75 rfl sizeOf2 rfl rfl)<|z2 (zLi isAgg2 rfl)<|z2 (zu underlying75 rfl sizeOf2 (by decide) rfl rfl)<|z2 (zy (c := .int _ _) isAgg2 rfl ⟨_, .t1⟩ rfl)<|z2 (y8 rfl rfl)<|z6<|yc (γ := Int) [2, 4] (fun y => []) (fun y => [(i4, .cells 75 [.int .i64 0, .int .i64 0]), (i2, .cells 75 [.int .i64 x, .int .i64 y])]) (fun y => y = imin a.2 b.2) ?_ (fun _ _ h => h) ?_
  ·refine zp rfl (fun c=>?_) (fun c=>?_)
   ·refine zRg<|z2 (zFF underlying75 rfl sizeOf2 rfl rfl)<|z2 (zLi isAgg2 rfl)<|z2 (zu underlying75 rfl sizeOf2 (by decide) rfl rfl)<|qg (l := [_]) (new := [_, _]) sizeOf2 rfl rfl rfl rfl rfl rfl .t1 rfl rfl<|z6 ?_
    exact ⟨b.2, zR2, trivial, zLe, by rw [imin, if_pos c]⟩
   ·refine zc ?_
    exact ⟨a.2, zR2, trivial, zLe, by rw [imin, if_neg c]⟩
  ·rintro y hy
   rw [rMeet, ← hx, ← hy, rMade]
   refine za<|zSr<|z2 (zu underlying75 rfl sizeOf2 (by decide) rfl rfl)<|z2 (zy (c := .int _ _) isAgg2 rfl ⟨_, .t1⟩ rfl)<|z2 (zu underlying75 rfl sizeOf2 (by decide) rfl rfl)<|z2 (zy (c := .int _ _) isAgg2 rfl ⟨_, .t1⟩ rfl)<|z2 (yv rfl rfl)<|z6<|zp rfl (fun c=>?_) (fun c=>?_)
   ·refine zSr<|ze (rNone) rfl<|zm sizeOf75 rfl rfl rfl rfl rfl rfl .head rfl<|z6<|zf<|q0 rfl ⟨_, .head⟩ isAgg75 sizeOf75 rfl ?_
    rw [if_pos c]; try rfl
   ·refine zc<|zSr<|z2 (Gv.loadWC isAgg75 sizeOf75 rfl ⟨_, .t1⟩ rfl)<|zm sizeOf75 rfl rfl rfl rfl rfl rfl .head rfl<|z6<|zf<|q0 rfl ⟨_, .head⟩ isAgg75 sizeOf75 rfl ?_
    rw [if_neg c]; try rfl
theorem rFits2 {k : Nat} (hk : k ≤ 2) {x y : Int} (hx : is64 x) (hy : is64 y) : AFun prog E 133 [.int .i64 k, .int .i64 x, .int .i64 y] (.bool (decide (fit3 k x y))) := by
 have hx1 := hx; have hy1 := hy
 unfold is64 at hx1 hy1
 refine zo func133 rfl (by decide) rfl<|zSr<|z2 (zAb rfl)<|z6<|za<|zSr<|z2 (zMi rfl)<|z6<|zh<|zSr<|z2 (y3 rfl rfl)<|z2 (zAb rfl)<|z6<|zp rfl (fun c0=>?_) (fun c0=>?_)
 ·have hk0 : k = 0 := by omega
  subst hk0
  refine zSr<|z2 (zMi rfl)<|z2 (yv rfl rfl)<|z2 (zMb rfl)<|zl (s := 16) rfl (fun c1=>?_) (fun c1=>?_)
  ·refine z8 rfl rfl c1<|z2 (zMi rfl)<|z8 rfl rfl c1<|z2 (zMi rfl)<|z8 rfl rfl c1<|z2 (Gv.sub rfl rfl (by unfold I64; simp at *; omega))<|z8 rfl rfl c1<|z2 (yv rfl rfl)<|z2 (zPt rfl c1 rfl)<|z2 (yd rfl)<|z2 (zMb rfl)<|zl (s := 23) rfl (fun c2=>?_) (fun c2=>?_)
   ·refine z8 rfl rfl c2<|z2 (zMi rfl)<|z8 rfl rfl c2<|z2 (y8 rfl rfl)<|z8 rfl rfl c2<|z2 (zMb rfl)<|zl (s := 26) rfl (fun c3=>?_) (fun c3=>?_)
    ·refine z8 rfl rfl c3<|z2 (zMi rfl)<|z8 rfl rfl c3<|z2 (zMi rfl)<|z8 rfl rfl c3<|z2 (Gv.sub rfl rfl (by unfold I64; simp at *; omega))<|z8 rfl rfl c3<|z2 (y8 rfl rfl)<|z8 rfl rfl c2<|z2 (zPt rfl c3 rfl)<|z8 rfl rfl c2<|z2 (yd rfl)<|z2 (zPt rfl c2 rfl)<|z2 (zAb rfl)<|z6<|zf<|zj (x := .bool _) rfl ?_
     exact jb (by rw [qs]; unfold fit3 op3 is64; simp at * <;> omega)
    ·refine z7 rfl rfl c3<|z7 rfl rfl c3<|z7 rfl rfl c3<|z7 rfl rfl c3<|z8 rfl rfl c2<|z2 (zPf rfl c3 rfl)<|z8 rfl rfl c2<|z2 (yd rfl)<|z2 (zPt rfl c2 rfl)<|z2 (zAb rfl)<|z6<|zf<|zj (x := .bool _) rfl ?_
     exact jb (by rw [qs]; unfold fit3 op3 is64; simp at * <;> omega)
   ·refine z7 rfl rfl c2<|z7 rfl rfl c2<|z7 rfl rfl c2<|zb rfl rfl<|zb rfl rfl<|zb rfl rfl<|zb rfl rfl<|z7 rfl rfl c2<|z7 rfl rfl c2<|z2 (zPf rfl c2 rfl)<|z2 (zAb rfl)<|z6<|zf<|zj (x := .bool _) rfl ?_
    exact jb (by rw [qs]; unfold fit3 op3 is64; simp at * <;> omega)
  ·refine z7 rfl rfl c1<|z7 rfl rfl c1<|z7 rfl rfl c1<|z7 rfl rfl c1<|z2 (zPf rfl c1 rfl)<|z2 (yd rfl)<|z2 (zMb rfl)<|z8 rfl rfl rfl<|z2 (zMi rfl)<|z8 rfl rfl rfl<|z2 (y8 rfl rfl)<|z8 rfl rfl rfl<|z2 (zMb rfl)<|zl (s := 26) rfl (fun c4=>?_) (fun c4=>?_)
   ·refine z8 rfl rfl c4<|z2 (zMi rfl)<|z8 rfl rfl c4<|z2 (zMi rfl)<|z8 rfl rfl c4<|z2 (Gv.sub rfl rfl (by unfold I64; simp at *; omega))<|z8 rfl rfl c4<|z2 (y8 rfl rfl)<|z8 rfl rfl rfl<|z2 (zPt rfl c4 rfl)<|z8 rfl rfl rfl<|z2 (yd rfl)<|z2 (zPt rfl rfl rfl)<|z2 (zAb rfl)<|z6<|zf<|zj (x := .bool _) rfl ?_
    exact jb (by rw [qs]; unfold fit3 op3 is64; simp at * <;> omega)
   ·refine z7 rfl rfl c4<|z7 rfl rfl c4<|z7 rfl rfl c4<|z7 rfl rfl c4<|z8 rfl rfl rfl<|z2 (zPf rfl c4 rfl)<|z8 rfl rfl rfl<|z2 (yd rfl)<|z2 (zPt rfl rfl rfl)<|z2 (zAb rfl)<|z6<|zf<|zj (x := .bool _) rfl ?_
    exact jb (by rw [qs]; unfold fit3 op3 is64; simp at * <;> omega)
 ·refine zSr<|z2 (y3 rfl rfl)<|z2 (zAb rfl)<|z6<|zp rfl (fun c1=>?_) (fun c1=>?_)
  ·have hk1 : k = 1 := by omega
   subst hk1
   refine zSr<|z2 (zMi rfl)<|z2 (y8 rfl rfl)<|z2 (zMb rfl)<|zl (s := 38) rfl (fun c5=>?_) (fun c5=>?_)
   ·refine z8 rfl rfl c5<|z2 (zMi rfl)<|z8 rfl rfl c5<|z2 (zMi rfl)<|z8 rfl rfl c5<|z2 (Gv.add rfl rfl (by unfold I64; simp at *; omega))<|z8 rfl rfl c5<|z2 (yv rfl rfl)<|z2 (zPt rfl c5 rfl)<|z2 (yd rfl)<|z2 (zMb rfl)<|zl (s := 45) rfl (fun c6=>?_) (fun c6=>?_)
    ·refine z8 rfl rfl c6<|z2 (zMi rfl)<|z8 rfl rfl c6<|z2 (yv rfl rfl)<|z8 rfl rfl c6<|z2 (zMb rfl)<|zl (s := 48) rfl (fun c7=>?_) (fun c7=>?_)
     ·refine z8 rfl rfl c7<|z2 (zMi rfl)<|z8 rfl rfl c7<|z2 (zMi rfl)<|z8 rfl rfl c7<|z2 (Gv.add rfl rfl (by unfold I64; simp at *; omega))<|z8 rfl rfl c7<|z2 (y8 rfl rfl)<|z8 rfl rfl c6<|z2 (zPt rfl c7 rfl)<|z8 rfl rfl c6<|z2 (yd rfl)<|z2 (zPt rfl c6 rfl)<|z2 (zAb rfl)<|z6<|zf<|zj (x := .bool _) rfl ?_
      exact jb (by rw [qs]; unfold fit3 op3 is64; simp at * <;> omega)
     ·refine z7 rfl rfl c7<|z7 rfl rfl c7<|z7 rfl rfl c7<|z7 rfl rfl c7<|z8 rfl rfl c6<|z2 (zPf rfl c7 rfl)<|z8 rfl rfl c6<|z2 (yd rfl)<|z2 (zPt rfl c6 rfl)<|z2 (zAb rfl)<|z6<|zf<|zj (x := .bool _) rfl ?_
      exact jb (by rw [qs]; unfold fit3 op3 is64; simp at * <;> omega)
    ·refine z7 rfl rfl c6<|z7 rfl rfl c6<|z7 rfl rfl c6<|zb rfl rfl<|zb rfl rfl<|zb rfl rfl<|zb rfl rfl<|z7 rfl rfl c6<|z7 rfl rfl c6<|z2 (zPf rfl c6 rfl)<|z2 (zAb rfl)<|z6<|zf<|zj (x := .bool _) rfl ?_
     exact jb (by rw [qs]; unfold fit3 op3 is64; simp at * <;> omega)
   ·refine z7 rfl rfl c5<|z7 rfl rfl c5<|z7 rfl rfl c5<|z7 rfl rfl c5<|z2 (zPf rfl c5 rfl)<|z2 (yd rfl)<|z2 (zMb rfl)<|z8 rfl rfl rfl<|z2 (zMi rfl)<|z8 rfl rfl rfl<|z2 (yv rfl rfl)<|z8 rfl rfl rfl<|z2 (zMb rfl)<|zl (s := 48) rfl (fun c8=>?_) (fun c8=>?_)
    ·refine z8 rfl rfl c8<|z2 (zMi rfl)<|z8 rfl rfl c8<|z2 (zMi rfl)<|z8 rfl rfl c8<|z2 (Gv.add rfl rfl (by unfold I64; simp at *; omega))<|z8 rfl rfl c8<|z2 (y8 rfl rfl)<|z8 rfl rfl rfl<|z2 (zPt rfl c8 rfl)<|z8 rfl rfl rfl<|z2 (yd rfl)<|z2 (zPt rfl rfl rfl)<|z2 (zAb rfl)<|z6<|zf<|zj (x := .bool _) rfl ?_
     exact jb (by rw [qs]; unfold fit3 op3 is64; simp at * <;> omega)
    ·refine z7 rfl rfl c8<|z7 rfl rfl c8<|z7 rfl rfl c8<|z7 rfl rfl c8<|z8 rfl rfl rfl<|z2 (zPf rfl c8 rfl)<|z8 rfl rfl rfl<|z2 (yd rfl)<|z2 (zPt rfl rfl rfl)<|z2 (zAb rfl)<|z6<|zf<|zj (x := .bool _) rfl ?_
     exact jb (by rw [qs]; unfold fit3 op3 is64; simp at * <;> omega)
  ·have hk2 : k = 2 := by omega
   subst hk2
   refine zc<|za<|za<|yc (γ := Bool) [1, 2] (fun u => [(61, .bool u)]) (fun u => []) (fun u => u = decide (x = 0 ∨ y = 0)) ?_ (fun _ _ h => h) ?_
   ·refine zRg<|z2 (zMi rfl)<|z2 (y3 rfl rfl)<|z2 (zMb rfl)<|zl (s := 58) rfl (fun c9=>?_) (fun c9=>?_)
    ·refine z7 rfl rfl c9<|z7 rfl rfl c9<|z2 (zPt rfl c9 rfl)<|z6 ?_
     exact ⟨_, zR2, zR1, zLe, by simp_all⟩
    ·refine z8 rfl rfl c9<|z2 (zMi rfl)<|z8 rfl rfl c9<|z2 (y3 rfl rfl)<|z2 (zPf rfl c9 rfl)<|z6 ?_
     exact ⟨_, zR2, zR1, zLe, by simp_all⟩
   ·rintro u hu
    subst hu
    refine zp rfl (fun cz=>?_) (fun cz=>?_)
    ·refine zSr<|z2 (zAb rfl)<|z6<|zf<|zj (x := .bool _) rfl ?_
     exact jb (by rw [qu]; unfold fit3; rw [show op3 2 x y = x * y from rfl]; rcases cz with h | h <;> rw [h] <;> simp [is64])
    ·have hx0 : x ≠ 0 := fun e => cz (.inl e)
     have hy0 : y ≠ 0 := fun e => cz (.inr e)
     refine zc<|zSr<|z2 (zMi rfl)<|z2 (y8 rfl rfl)<|z2 (zMi rfl)<|z2 (y8 rfl rfl)<|z2 (Gv.eqlB underlying4 rfl rfl)<|z2 (zAb rfl)<|z6<|zSr<|z2 (zMi rfl)<|z2 (Gv.conv underlying2 underlying232 rfl)<|z2 (zMi rfl)<|z2 (Gv.conv underlying2 underlying232 rfl)<|z2 (zAi rfl)<|z2 (zAi rfl)<|z6<|za<|zSr<|z2 (zMi rfl)<|z2 (y8 rfl rfl)<|z6<|yc (γ := Int) [2, 7, 9] (fun u => [(8, .int .u64 u)]) (fun u => []) (fun u => u = (x.natAbs : Int)) ?_ (fun _ _ h => h) ?_
     ·refine zp rfl (fun c=>?_) (fun c=>?_)
      ·refine zRg<|z2 (zMi rfl)<|z2 (Gv.neg rfl)<|z2 (zAi rfl)<|z6 ?_
       exact ⟨_, zR3, zR1, zLe, by have := abs_wrap hx; rwa [if_pos c] at this⟩
      ·refine zc ?_
       exact ⟨_, zR3, zR1, zLe, by have := abs_wrap hx; rwa [if_neg c] at this⟩
     ·rintro u hu
      subst hu
      refine za<|zSr<|z2 (zMi rfl)<|z2 (y8 rfl rfl)<|z6<|yc (γ := Int) [7, 8] (fun u => [(9, .int .u64 u)]) (fun u => []) (fun u => u = (y.natAbs : Int)) ?_ (fun _ _ h => h) ?_
      ·refine zp rfl (fun c=>?_) (fun c=>?_)
       ·refine zRg<|z2 (zMi rfl)<|z2 (Gv.neg rfl)<|z2 (zAi rfl)<|z6 ?_
        exact ⟨_, zR2, zR1, zLe, by have := abs_wrap hy; rwa [if_pos c] at this⟩
       ·refine zc ?_
        exact ⟨_, zR2, zR1, zLe, by have := abs_wrap hy; rwa [if_neg c] at this⟩
      ·rintro u hu
       subst hu
       refine zSr<|z2 (zAi rfl)<|z6<|za<|zSr<|z2 (zMb rfl)<|z2 (yd rfl)<|z6<|yc (γ := Int) [8, 9] (fun u => [(10, .int .u64 u)]) (fun u => []) (fun u => u = (if (decide (x < 0) == decide (y < 0)) = true then 9223372036854775807 else 9223372036854775808)) ?_ (fun _ _ h => h) ?_
       ·refine zr rfl (fun c=>?_) (fun c=>?_)
        ·refine zRg<|z2 (zAi rfl)<|z6 ?_
         exact ⟨_, zR2, zR1, zLe, by rw [if_neg (by simpa using c)]⟩
        ·refine zc ?_
         exact ⟨_, zR2, zR1, zLe, by rw [if_pos (by simpa using c)]⟩
       ·rintro u hu
        subst hu
        refine zSr<|z2 (zMi rfl)<|z2 (zMi rfl)<|z2 (zMi rfl)<|z2 (Gv.quo rfl rfl (by omega))<|z2 (Gv.leq rfl rfl)<|z2 (zAb rfl)<|z6<|zf<|zj (x := .bool _) rfl ?_
        exact jb (fitU hx hx0 hy0)
theorem rFits {k : Nat} (hk : k ≤ 2) {a b : Rng} (ha : ok64 a) (hb : ok64 b) : AFun prog E 109 [.int .i64 k, .agg (encZ a), .agg (encZ b)] (.bool (decide (cornF k a b))) := by
 refine zo func109 rfl (by decide) rfl<|zSr<|y7 (cs := _) rfl rfl rfl<|y7 (cs := _) rfl rfl rfl<|z2 (zAb rfl)<|z6<|zSr<|z2 (zMi rfl)<|z2 (zFF underlying75 rfl sizeOf2 rfl rfl)<|z2 (zLi isAgg2 rfl)<|z2 (zFF underlying75 rfl sizeOf2 rfl rfl)<|z2 (zLi isAgg2 rfl)<|ze (rFits2 hk ha.1 hb.1) rfl<|z2 (zMb rfl)<|zl (s := 13) rfl (fun c10=>?_) (fun c10=>?_)
 ·refine z8 rfl rfl c10<|z2 (zMi rfl)<|z8 rfl rfl c10<|z2 (zFF underlying75 rfl sizeOf2 rfl rfl)<|z8 rfl rfl c10<|z2 (zLi isAgg2 rfl)<|z8 rfl rfl c10<|z2 (zFF underlying75 rfl sizeOf2 rfl rfl)<|z8 rfl rfl c10<|z2 (zLi isAgg2 rfl)<|z8 rfl rfl c10<|ze (rFits2 hk ha.1 hb.2) rfl<|z2 (zPt rfl c10 rfl)<|z2 (zMb rfl)<|zl (s := 21) rfl (fun c11=>?_) (fun c11=>?_)
  ·refine z8 rfl rfl c11<|z2 (zMi rfl)<|z8 rfl rfl c11<|z2 (zFF underlying75 rfl sizeOf2 rfl rfl)<|z8 rfl rfl c11<|z2 (zLi isAgg2 rfl)<|z8 rfl rfl c11<|z2 (zFF underlying75 rfl sizeOf2 rfl rfl)<|z8 rfl rfl c11<|z2 (zLi isAgg2 rfl)<|z8 rfl rfl c11<|ze (rFits2 hk ha.2 hb.1) rfl<|z2 (zPt rfl c11 rfl)<|z2 (zMb rfl)<|zl (s := 29) rfl (fun c12=>?_) (fun c12=>?_)
   ·refine z8 rfl rfl c12<|z2 (zMi rfl)<|z8 rfl rfl c12<|z2 (zFF underlying75 rfl sizeOf2 rfl rfl)<|z8 rfl rfl c12<|z2 (zLi isAgg2 rfl)<|z8 rfl rfl c12<|z2 (zFF underlying75 rfl sizeOf2 rfl rfl)<|z8 rfl rfl c12<|z2 (zLi isAgg2 rfl)<|z8 rfl rfl c12<|ze (rFits2 hk ha.2 hb.2) rfl<|z2 (zPt rfl c12 rfl)<|z2 (zAb rfl)<|z6<|zf<|zj (x := .bool _) rfl ?_
    exact jb (by unfold cornF; simp_all)
   ·refine z7 rfl rfl c12<|z7 rfl rfl c12<|z7 rfl rfl c12<|z7 rfl rfl c12<|z7 rfl rfl c12<|z7 rfl rfl c12<|z2 (zPf rfl c12 rfl)<|z2 (zAb rfl)<|z6<|zf<|zj (x := .bool _) rfl ?_
    exact jb (by unfold cornF; simp_all)
  ·refine z7 rfl rfl c11<|z7 rfl rfl c11<|z7 rfl rfl c11<|z7 rfl rfl c11<|z7 rfl rfl c11<|z7 rfl rfl c11<|z2 (zPf rfl c11 rfl)<|z2 (zMb rfl)<|z7 rfl rfl rfl<|z7 rfl rfl rfl<|z7 rfl rfl rfl<|z7 rfl rfl rfl<|z7 rfl rfl rfl<|z7 rfl rfl rfl<|z2 (zPf rfl rfl rfl)<|z2 (zAb rfl)<|z6<|zf<|zj (x := .bool _) rfl ?_
   exact jb (by unfold cornF; simp_all)
 ·refine z7 rfl rfl c10<|z7 rfl rfl c10<|z7 rfl rfl c10<|z7 rfl rfl c10<|z7 rfl rfl c10<|z7 rfl rfl c10<|z2 (zPf rfl c10 rfl)<|z2 (zMb rfl)<|z7 rfl rfl rfl<|z7 rfl rfl rfl<|z7 rfl rfl rfl<|z7 rfl rfl rfl<|z7 rfl rfl rfl<|z7 rfl rfl rfl<|z2 (zPf rfl rfl rfl)<|z2 (zMb rfl)<|z7 rfl rfl rfl<|z7 rfl rfl rfl<|z7 rfl rfl rfl<|z7 rfl rfl rfl<|z7 rfl rfl rfl<|z7 rfl rfl rfl<|z2 (zPf rfl rfl rfl)<|z2 (zAb rfl)<|z6<|zf<|zj (x := .bool _) rfl ?_
  exact jb (by unfold cornF; simp_all)
end Go.Proofs.YtjnpcfpecilejaaGreatDoor
namespace Go.Proofs.YtjnpcfpecilejaaGreatDoor
open Go.Proofs.Tryz
open Go.Proofs
theorem ps23_1 : PlacesS prog 23 3 1 1 [.int .i64 0] := ⟨_, underlying23, sizeOf3, zeroValue3, by decide, by decide, by kernel_rfl⟩
theorem ps23_2 : PlacesS prog 23 3 2 1 [.int .i64 0, .int .i64 0] := ⟨_, underlying23, sizeOf3, zeroValue3, by decide, by decide, by kernel_rfl⟩
variable {E : World}
set_option maxRecDepth 20000
theorem ends_0 {t : PTerm} (h : t.kind = 0) : endsL t = [t.to0] := by unfold endsL; rw [if_pos h]
theorem ends_1 {t : PTerm} (h : t.kind = 1) (e : t.to0 = t.to1) : endsL t = [t.to0] := by unfold endsL; rw [if_neg (by omega), if_pos h, if_pos e]
theorem ends_2 {t : PTerm} (h : t.kind = 1) (e : ¬ t.to0 = t.to1) : endsL t = [t.to0, t.to1] := by unfold endsL; rw [if_neg (by omega), if_pos h, if_neg e]
theorem ends_3 {t : PTerm} (h0 : ¬ t.kind = 0) (h : ¬ t.kind = 1) : endsL t = [] := by unfold endsL; rw [if_neg h0, if_neg h]
theorem ends_spec (t : PTerm) : AFun prog E 138 [.agg (encTerm t)] (.fro 1 ((endsL t).map encI)) := by
 refine zo func138 rfl (by decide) rfl<|zSr<|y7 (cs := _) rfl rfl rfl<|z2 (zAr rfl)<|z6<|za<|zh<|za<|zSr<|z2 (zFF underlying64 rfl sizeOf61 rfl rfl)<|z2 (zLi isAgg61 rfl)<|z2 (y3 rfl rfl)<|z2 (zAb rfl)<|z6<|zp rfl (fun c0=>?_) (fun c0=>?_)
 ·refine zc<|yr rfl (by simpa using c0)<|zSr<|z2 (zFF underlying64 rfl sizeOf62 rfl rfl)<|z2 (yo (j := 0) underlying62 sizeOf3 rfl rfl rfl (by decide) rfl)<|z2 (zLi isAgg3 rfl)<|zw (rows := [[_]]) ps23_1 rfl rfl rfl rfl rfl<|z2 (zAf rfl)<|z6<|zf<|zj (x := .fro _ _) rfl ?_
  rw [ends_0 c0]; rfl
 ·refine zRg<|z2 (zFF underlying64 rfl sizeOf61 rfl rfl)<|z2 (zLi isAgg61 rfl)<|z2 (y3 rfl rfl)<|z2 (zMb rfl)<|zl (s := 10) rfl (fun c1=>?_) (fun c1=>?_)
  ·refine z8 rfl rfl c1<|z2 (zFF underlying64 rfl sizeOf62 rfl rfl)<|z8 rfl rfl c1<|z2 (yo (j := 0) underlying62 sizeOf3 rfl rfl rfl (by decide) rfl)<|z8 rfl rfl c1<|z2 (zLi isAgg3 rfl)<|z8 rfl rfl c1<|z2 (zFF underlying64 rfl sizeOf62 rfl rfl)<|z8 rfl rfl c1<|z2 (yo (j := 1) underlying62 sizeOf3 rfl rfl rfl (by decide) rfl)<|z8 rfl rfl c1<|z2 (zLi isAgg3 rfl)<|z8 rfl rfl c1<|z2 (y3 rfl rfl)<|z2 (zPt rfl c1 rfl)<|z2 (zAb rfl)<|z6<|zr rfl (fun c2=>?_) (fun c2=>?_)
   ·refine zSr<|z2 (zFF underlying64 rfl sizeOf62 rfl rfl)<|z2 (yo (j := 0) underlying62 sizeOf3 rfl rfl rfl (by decide) rfl)<|z2 (zLi isAgg3 rfl)<|zw (rows := [[_]]) ps23_1 rfl rfl rfl rfl rfl<|z2 (zAf rfl)<|z6<|zf<|zj (x := .fro _ _) rfl ?_
    rw [ends_1 (by simpa using c1) (by simpa using c2)]; rfl
   ·refine zSr<|z2 (zFF underlying64 rfl sizeOf61 rfl rfl)<|z2 (zLi isAgg61 rfl)<|z2 (y3 rfl rfl)<|z2 (zAb rfl)<|z6<|yr rfl (by simpa using c1)<|zSr<|z2 (zFF underlying64 rfl sizeOf62 rfl rfl)<|z2 (yo (j := 0) underlying62 sizeOf3 rfl rfl rfl (by decide) rfl)<|z2 (zLi isAgg3 rfl)<|z2 (zFF underlying64 rfl sizeOf62 rfl rfl)<|z2 (yo (j := 1) underlying62 sizeOf3 rfl rfl rfl (by decide) rfl)<|z2 (zLi isAgg3 rfl)<|zw (rows := [[_], [_]]) ps23_2 rfl rfl rfl rfl rfl<|z2 (zAf rfl)<|z6<|zf<|zj (x := .fro _ _) rfl ?_
    rw [ends_2 (by simpa using c1) (by simpa using c2)]; rfl
  ·refine z7 rfl rfl c1<|z7 rfl rfl c1<|z7 rfl rfl c1<|z7 rfl rfl c1<|z7 rfl rfl c1<|z7 rfl rfl c1<|z7 rfl rfl c1<|z2 (zPf rfl c1 rfl)<|z2 (zAb rfl)<|z6<|yh rfl rfl<|zSr<|z2 (zFF underlying64 rfl sizeOf61 rfl rfl)<|z2 (zLi isAgg61 rfl)<|z2 (y3 rfl rfl)<|z2 (zAb rfl)<|z6<|yh rfl (by simpa using c1)<|zc<|zSr<|z2 (zAr rfl)<|z6<|zf ?_
   repeat (first | refine aseqQ_ret ?_ | refine ablockQ_ret ?_)
   refine GStep.fin (qa (t := 2) rfl (impNil 1))<|zj (x := .fro _ _) rfl ?_
   rw [ends_3 (by simpa using c0) (by simpa using c1)]; rfl
def push1 (rows : List (List Int)) (c x : Int) : List (List Int) := rows.set c.toNat ((rows[c.toNat]?).getD [] ++ [x])
def pushes (rows : List (List Int)) (cs : List Int) (x : Int) : List (List Int) := cs.foldl (fun r c => push1 r c x) rows
theorem pushes_len (cs : List Int) (x : Int) : ∀ rows, (pushes rows cs x).length = rows.length := by
 induction cs with
 | nil => intro rows; rfl
 | cons c cs ih => intro rows; show (pushes (push1 rows c x) cs x).length = _; rw [ih]; unfold push1; simp
theorem pushes_snoc (rows : List (List Int)) (cs : List Int) (c x : Int) : pushes rows (cs ++ [c]) x = push1 (pushes rows cs x) c x := by unfold pushes; rw [List.foldl_append]; rfl
theorem push1_get {rows : List (List Int)} {c x : Int} (h0 : 0 ≤ c) (b : Nat) : (push1 rows c x)[b]? = (rows[b]?).map (· ++ if c = (b : Int) then [x] else []) := by
 unfold push1
 rw [List.getElem?_set]
 by_cases e : c.toNat = b
 ·have : c = (b : Int) := by omega
  rw [if_pos e, if_pos this, e]
  by_cases hb : b < rows.length
  ·rw [if_pos hb, qj hb]; rfl
  ·rw [if_neg hb, List.getElem?_eq_none (by omega)]; rfl
 ·have : ¬ c = (b : Int) := by omega
  rw [if_neg e, if_neg this]; simp
theorem pushes_get (x : Int) (b : Nat) : ∀ (cs : List Int) (rows : List (List Int)), (∀ c ∈ cs, 0 ≤ c) → (pushes rows cs x)[b]? = (rows[b]?).map (· ++ (cs.filter fun c => decide (c = (b : Int))).map fun _ => x)
 | [], rows, _ => by simp [pushes]
 | c :: cs, rows, h => by
  show (pushes (push1 rows c x) cs x)[b]? = _
  rw [pushes_get x b cs _ (fun c hc => h c (List.mem_cons_of_mem _ hc)), push1_get (h c (List.mem_cons_self ..))]
  cases rows[b]? with
  | none => rfl
  | some r =>
   by_cases e : c = (b : Int)
   ·simp [e]
   ·simp [e]
def predsR (f : PFunc) (k : Nat) : List (List Int) := (List.range f.blocks.length).map fun (b : Nat) => predsT (EndsOf f) k (b : Int)
theorem predsR_len (f : PFunc) (k : Nat) : (predsR f k).length = f.blocks.length := by unfold predsR; simp
theorem predsR_zero (f : PFunc) : List.replicate f.blocks.length [] = predsR f 0 := by
 apply List.ext_getElem
 ·rw [predsR_len]; simp
 ·intro i h1 h2
  unfold predsR predsT intsTo
  simp
theorem predsT_succ (E : Int → List Int) (k : Nat) (b : Int) : predsT E (k + 1) b = predsT E k b ++ ((E k).filter fun c => decide (c = b)).map fun _ => (k : Int) := by
 unfold predsT; rw [intsTo_succ, List.flatMap_append]; simp
theorem predsR_succ {f : PFunc} {k : Nat} (h0 : ∀ c ∈ EndsOf f k, 0 ≤ c) : pushes (predsR f k) (EndsOf f k) k = predsR f (k + 1) := by
 apply List.ext_getElem?
 intro b
 rw [pushes_get _ _ _ _ h0]
 by_cases hb : b < f.blocks.length
 ·unfold predsR
  rw [qr, qr, List.getElem?_range hb]
  simp only [Option.map_some]
  rw [predsT_succ]
 ·rw [List.getElem?_eq_none (by rw [predsR_len]; omega), List.getElem?_eq_none (by rw [predsR_len]; omega)]; rfl
theorem push_row {rows : List (List Int)} {c x : Int} (h : c.toNat < rows.length) : rows.set c.toNat (rows[c.toNat] ++ [x]) = push1 rows c x := by
 unfold push1; rw [qj h]; rfl
theorem predsT_len (f : PFunc) (b : Int) : ∀ k, (predsT (EndsOf f) k b).length ≤ 2 * k
 | 0 => by simp [predsT, intsTo]
 | k + 1 => by
  have h1 := predsT_len f b k
  have h2 := EndsOf_len f k
  have h3 := List.length_filter_le (fun c => decide (c = b)) (EndsOf f k)
  rw [predsT_succ, qp, qq]
  omega
theorem row_len {f : PFunc} {k b : Nat} {cs : List Int} {x : Int} (h0 : ∀ c ∈ cs, 0 ≤ c) (hb : b < (pushes (predsR f k) cs x).length) : (pushes (predsR f k) cs x)[b].length ≤ 2 * k + cs.length := by
 have hb2 : b < f.blocks.length := by rwa [pushes_len, predsR_len] at hb
 have h := pushes_get x b cs (predsR f k) h0
 have hr : (predsR f k)[b]? = some (predsT (EndsOf f) k (b : Int)) := by unfold predsR; rw [qr, List.getElem?_range hb2]; rfl
 rw [qj hb, hr] at h
 have h : (pushes (predsR f k) cs x)[b] = predsT (EndsOf f) k (b : Int) ++ (cs.filter fun c => decide (c = (b : Int))).map fun _ => x := by simpa using h
 have h2 := predsT_len f b k
 have h3 := List.length_filter_le (fun c => decide (c = (b : Int))) cs
 rw [h, qp, qq]
 omega
theorem preds_spec (f : PFunc) (hE : EndsOk f) (hn : f.blocks.length ≤ 100000) : AFun prog E 146 [.agg (encF f)] (froN eI (predsR f f.blocks.length)) := by
 refine zo func146 rfl (by decide) rfl<|zSr<|y7 (cs := _) rfl rfl rfl<|z2 (zAr rfl)<|z6<|zSr<|z2 (zFF underlying26 rfl sizeOf24 rfl rfl)<|z2 (zLf isAgg24 rfl)<|z2 (zz underlying24 rfl)<|yb (m := f.blocks.length) underlying103 type23 rfl rfl rfl rfl rfl (by simp) (by simp) (by show (24 : Int) * _ ≤ _; omega) (by omega) eI 3<|fun b11 => z2 (ye (v := nref _ _) rfl)<|z6<|za<|zSr<|z2 (zFF underlying26 rfl sizeOf24 rfl rfl)<|z2 (zLf isAgg24 rfl)<|z2 (zz underlying24 rfl)<|z2 (zMi rfl)<|z6<|zh<|y6 (γ := Nat) [3, 13, 14] (fun k => [(15, .int .i64 k)]) (fun k => [(0, nestO eI 23 3 b11 (predsR f k))]) (fun k => k ≤ f.blocks.length) (fun k => f.blocks.length - k) 0 zR1 ⟨_, (.refl _), by rw [predsR_zero]⟩ (qm _) ?_
 rintro k hk
 refine zSr<|z2 (y8 rfl rfl)<|z6<|za<|zp rfl (fun ck=>?_) (fun ck=>?_)
 ·have hk2 : k < f.blocks.length := by simp at ck; omega
  have hEk : EndsOf f k = endsL f.blocks[k].term := EndsOf_nat hk2
  have hlen := endsL_len f.blocks[k].term
  have hrng := hE.rng _ (qn hk2)
  refine zc<|za<|zh<|zSr<|z2 (zMi rfl)<|z2 (zIM k underlying24 sizeOf66 rfl rfl rfl (qj hk2))<|z2 (zk isAgg66 sizeOf66 rfl rfl)<|zq (cs := [.str ⟨#[]⟩, .raw (.slice none 0 0), .raw (.slice none 0 0), .int .i64 0, .int .i64 0, .int .i64 0, .int .i64 0]) zeroValue66 rfl rfl<|fun i5 => z2 (zAi rfl)<|zm sizeOf66 rfl rfl rfl rfl rfl rfl .head rfl<|z6<|zSr<|z2 (zu underlying66 rfl sizeOf64 (by decide) rfl rfl)<|z2 (yp (l := [_, _, _, _]) isAgg64 sizeOf64 rfl ⟨_, .head⟩ rfl rfl)<|ze (ends_spec _) rfl<|z2 (zz underlying23 rfl)<|z2 (zMi rfl)<|z6<|zh<|y6 (γ := Nat) [3, 4, 13, 14, 15, 22, 23] (fun j => [(24, .int .i64 j)]) (fun j => [(0, nestO eI 23 3 b11 (pushes (predsR f k) ((endsL f.blocks[k].term).take j) k))]) (fun j => j ≤ (endsL f.blocks[k].term).length) (fun j => (endsL f.blocks[k].term).length - j) 0 zR1 ⟨_, (.drop (.refl _)), rfl⟩ (qm _) ?_
  rintro j hj
  refine zSr<|z2 (y8 rfl rfl)<|z6<|za<|zp rfl (fun cj=>?_) (fun cj=>?_)
  ·have hj2 : j < (endsL f.blocks[k].term).length := by simp at cj; omega
   obtain ⟨c, hc⟩ : ∃ c, (endsL f.blocks[k].term)[j] = c := ⟨_, rfl⟩
   have hr := hrng c (hc ▸ qn hj2)
   obtain ⟨rows, hrows⟩ : ∃ rows, pushes (predsR f k) ((endsL f.blocks[k].term).take j) k = rows := ⟨_, rfl⟩
   have hrl : rows.length = f.blocks.length := by rw [← hrows, pushes_len, predsR_len]
   have hcn : c.toNat < rows.length := by omega
   have hrow : rows[c.toNat].length ≤ 200002 := by
    have := row_len (f := f) (k := k) (b := c.toNat) (cs := (endsL f.blocks[k].term).take j) (x := k) (fun c hc => (hrng c (List.mem_of_mem_take hc)).1) (by rw [hrows]; exact hcn)
    simp only [hrows, List.length_take] at this
    omega
   rw [hrows]
   refine zc<|za<|zh<|zSr<|z2 (zIM j underlying23 sizeOf3 rfl rfl rfl (by rw [qj hj2, hc]))<|z2 (zLi isAgg3 rfl)<|z2 (zAi rfl)<|z6<|zRg<|z2 (yj (v := nref _ _) rfl)<|z2 (zMi rfl)<|z2 (yj (v := nref _ _) rfl)<|z2 (zMi rfl)<|z2 (qf (j := c.toNat) underlying103 sizeOf23 rfl rfl (by omega) (by omega))<|q6 (j := c.toNat) (r := rows[c.toNat]) isAgg23 rfl (qj hcn) (fun _ => .head)<|fun i33 => z2 (zMi rfl)<|zw (rows := [[_]]) ps23_1 rfl rfl rfl rfl rfl<|yl (k := 1) underlying23 type3 rfl rfl rfl rfl rfl (fun _ => .head) (by rw [eI.av_len]; rfl) (by decide) rfl (by show (_ + 1) * 8 ≤ _; omega) (by show _ + 1 ≤ _; omega)<|fun i36 => z2 (qf (j := c.toNat) underlying103 sizeOf23 rfl rfl (by omega) (by omega))<|qc (j := c.toNat) (r := rows[c.toNat] ++ [(k : Int)]) sizeOf23 rfl rfl (by omega) .head .head rfl (eI.av_push _ _) (by simp)<|z6<|zRg<|z2 (zAd rfl rfl)<|z2 (zMi rfl)<|z6 ?_
   exact ⟨j + 1, zR7, zR1, ⟨_, (.refl _), by rw [qk hj2, pushes_snoc, hrows, hc, push_row hcn]⟩, hj2, by omega⟩
  ·have hjn : j = (endsL f.blocks[k].term).length := by simp at cj; omega
   refine y4<|zRg<|z2 (zAd rfl rfl)<|z2 (zMi rfl)<|z6 ?_
   exact ⟨k + 1, zR3, zR1, ⟨_, (.refl _), by rw [hjn, qo, ← hEk, predsR_succ (fun c hc => (hrng c (hEk ▸ hc)).1)]⟩, hk2, by omega⟩
 ·have hkn : k = f.blocks.length := by simp at ck; omega
  subst hkn
  refine yf (GStep.nestKnow (s := 3) rfl .head (predsR_len f _))<|y4<|zSr<|z2 (zMf rfl)<|z2 (zAf rfl)<|z6<|zf<|zj (x := .fro _ _) rfl ?_
  rfl
end Go.Proofs.YtjnpcfpecilejaaGreatDoor
namespace Go.Proofs.YtjnpcfpecilejaaGreatDoor
open Go.Proofs.Tryz
open Go.Proofs
theorem pl266 : Places prog 266 #[(0, 1), (1, 1)] [.int .i64 0, .int .i64 0] := ⟨_, _, underlying266, zeroValue266, fun w => by kernel_rfl, rfl⟩
theorem ps267_1 : PlacesS prog 267 266 1 2 [.int .i64 0, .int .i64 0] := ⟨_, underlying267, sizeOf266, zeroValue266, by decide, by decide, by kernel_rfl⟩
variable {E : World}
set_option maxRecDepth 20000
def stC (r : List (Int × Nat)) : List AV := (r.reverse.map fun q => [AV.int .i64 q.1, AV.int .i64 (q.2 : Int)]).flatten
theorem stC_cons (b : Int) (k : Nat) (r : List (Int × Nat)) : stC ((b, k) :: r) = stC r ++ [AV.int .i64 b, AV.int .i64 (k : Int)] := by unfold stC; simp
theorem stC_len (r : List (Int × Nat)) : (stC r).length = r.length * 2 := by
 induction r with
 | nil => rfl
 | cons q r ih => obtain ⟨b, k⟩ := q; rw [stC_cons, qp, ih]; simp only [List.length_cons, List.length_nil]; omega
theorem dfs_lens {f : PFunc} {n k : Nat} (hE : EOk (EndsOf f) n) : (dfsN (EndsOf f) n k).2.1.length + (dfsN (EndsOf f) n k).2.2.length ≤ n := by
 have h := dfsN_inv hE k
 have h2 := nodup_len _ (intsTo n) h.nodup fun x hx => mem_intsTo.2 (h.rng x hx)
 rw [intsTo_len, qp, qq] at h2
 exact h2
theorem order_spec (f : PFunc) (hE : EndsOk f) (hn : f.blocks.length ≤ 100000) (hrev : ∀ (l : List Int) (i : Nat) (T : TypeId), l.length ≤ 200000 → ACall prog E 225 [.own i l.length] [(i, .grow 1 T (cI l))] fun r O => r = .tup [] ∧ O = [(i, .grow 1 T (cI l.reverse))]) :
  AFun prog E 190 [.agg (encF f)] (.fro 1 ((orderT (EndsOf f) f.blocks.length).map encI)) := by
 have hG := hE.grph
 have hpos := hG.npos
 refine zo func190 rfl (by decide) rfl<|zSr<|y7 (cs := _) rfl rfl rfl<|z2 (zAr rfl)<|z6<|zSr<|z2 (zFF underlying26 rfl sizeOf24 rfl rfl)<|z2 (zLf isAgg24 rfl)<|z2 (zz underlying24 rfl)<|AOps.makeB (m := f.blocks.length) underlying111 type4 rfl rfl rfl rfl rfl (by simp) (by simp) (by show (1 : Int) * _ ≤ _; omega) (by omega)<|fun i12 => z2 (zAo rfl)<|z6<|zSr<|z2 (zMo rfl)<|z2 (yx (j := 0) underlying111 sizeOf4 rfl rfl rfl ⟨_, .head⟩ (by first | rfl | (simp [cI_len, cB_len]; done) | (simp [cI_len, cB_len]; omega)) hG.npos)<|AOps.storeB (j := 0) sizeOf4 rfl rfl .head (by first | omega | (simp; omega))<|z6<|zSr<|z2 (zAr rfl)<|z6<|zSr<|z2 (y5 (cps := [(0, [_]), (1, [_])]) (rs := [_, _]) pl266 rfl rfl rfl)<|AOps.buildSliceO (cps := [(0, [_, _])]) (rs := [_, _]) ps267_1 rfl rfl rfl rfl rfl<|fun i16 => z2 (zAo rfl)<|z6<|adopt_wp (t := 4) (k := 1) (T := 3) rfl<|fun i4 => yf (zg (zi .t1))<|za<|zh<|y6 (γ := Nat × Nat × Nat) [1, 3] (fun g => [(4, .own g.2.1 (dfsN (EndsOf f) f.blocks.length g.1).2.1.length), (5, .own g.2.2 (dfsN (EndsOf f) f.blocks.length g.1).2.2.length)]) (fun g => [(g.2.2, .grow 2 266 (stC (dfsN (EndsOf f) f.blocks.length g.1).2.2)), (g.2.1, .grow 1 3 (cI (dfsN (EndsOf f) f.blocks.length g.1).2.1)), (i12, .grow 1 4 (cB (dfsN (EndsOf f) f.blocks.length g.1).1))]) (fun g => g.1 ≤ 4 * f.blocks.length ∧ (dfsN (EndsOf f) f.blocks.length g.1).1.length = f.blocks.length) (fun g => dleft (dfsN (EndsOf f) f.blocks.length g.1)) (0, i4, i16) zR2 zLe (⟨qm _, by simp [dfsN, dfs0]⟩) ?_
 rintro ⟨k, io, il⟩ ⟨hk, hsl⟩
 try dsimp only at *
 have hI := dfsN_inv hG.toEOk k
 have hlen := dfs_lens (k := k) hG.toEOk
 have hlt := dfs_left hG.toEOk k
 have hstep : dfsN (EndsOf f) f.blocks.length (k + 1) = dstep (EndsOf f) (dfsN (EndsOf f) f.blocks.length k) := rfl
 rcases hx : dfsN (EndsOf f) f.blocks.length k with ⟨seen, out, st⟩
 rw [hx] at hI hlen hlt hstep hsl
 dsimp only at hlen hlt hsl
 cases st with
 | nil =>
 ·refine za<|zSr<|z2 (zMo rfl)<|z2 (Gv.lenO underlying267 rfl)<|z2 (yv rfl rfl)<|z6<|yh rfl (by simp) ?_
  have hfin := dfs_still (E := EndsOf f) (n := f.blocks.length) (k := k) (by rw [hx]) hk
  refine y4<|zSr<|z2 (zMo rfl)<|zt rfl (zn (.r (.l (.r (.rest _))))) (hrev out io 3 (by omega)) ?_
  rintro r82 O82 ⟨rfl, rfl⟩
  refine z6<|yf (GStep.knowI (t := 4) rfl .head (by simp))<|zSr<|z2 (zMf rfl)<|z2 (zAf rfl)<|z6<|zf<|zj (x := .fro _ _) rfl ?_
  unfold orderT; rw [hfin, hx]; rfl
  | cons q r =>
 ·obtain ⟨b, j⟩ := q
  have hbr := hI.rng b (by simp)
  have hbl : b.toNat < f.blocks.length := by omega
  have hEb : EndsOf f b = endsL f.blocks[b.toNat].term := EndsOf_get hbr.1 hbl
  have hjl := (hI.part (b, j) (by simp)).1
  dsimp only at hjl
  have hmn : dleft (dfsN (EndsOf f) f.blocks.length (k + 1)) < dleft (dfsN (EndsOf f) f.blocks.length k) := by rw [hstep, hx]; exact DInv.less hG.toEOk hI (by simp)
  have hk2 : k + 1 ≤ 4 * f.blocks.length := by simp at hlt; omega
  have hsn : (dfsN (EndsOf f) f.blocks.length (k + 1)).1.length = f.blocks.length := (dfsN_inv hG.toEOk (k + 1)).len
  rw [dstep_cons] at hstep
  rw [hx] at hmn
  rw [stC_cons]
  simp only [List.length_cons] at hlen ⊢
  refine za<|zSr<|z2 (zMo rfl)<|z2 (Gv.lenO underlying267 rfl)<|z2 (yv rfl rfl)<|z6<|yr rfl (by simp)<|zc<|zh<|zSr<|z2 (zMo rfl)<|z2 (zMo rfl)<|z2 (Gv.lenO underlying267 rfl)<|z2 (Gv.sub rfl rfl (by unfold I64; show _ ∧ ((r.length + 1 : Nat) : Int) - 1 ≤ _; omega))<|z2 (Gv.idxOL (j := r.length) underlying267 sizeOf266 rfl rfl (by show ((r.length + 1 : Nat) : Int) - 1 = _; omega) ⟨_, .head⟩ (by simp) (by show r.length < r.length + 1; omega) (show r.length * 2 = (stC r).length by rw [stC_len]))<|z2 (zAp rfl)<|z6<|za<|y1 (fun j => false) (by kernel_rfl) rfl (zn (.r (.rest _)))<|zTk 0 rfl (zFF underlying26 rfl sizeOf24 rfl rfl)<|zTk 1 rfl (zLf isAgg24 rfl)<|zTk 2 rfl (zMp rfl)<|zTk 3 rfl (ya rfl)<|zTk 4 rfl (zu underlying266 rfl sizeOf3 (by decide) rfl rfl)<|zTk 5 rfl (Gv.loadL (c := .int _ _) (j := 0) isAgg3 rfl rfl ⟨_, .head⟩ rfl)<|zTk 6 rfl (zIM b.toNat underlying24 sizeOf66 rfl rfl (by omega) (qj hbl))<|zTk 7 rfl (zFF underlying66 rfl sizeOf64 rfl rfl)<|zTk 8 rfl (zk isAgg64 sizeOf64 rfl rfl)<|zOn 9 rfl<|ze (ends_spec _) rfl<|z6<|zTk 10 rfl (zAf rfl)<|zDn<|za<|zSr<|z2 (zMp rfl)<|z2 (ya rfl)<|z2 (zu underlying266 rfl sizeOf3 (by decide) rfl rfl)<|z2 (Gv.loadL (c := .int _ _) (j := 1) isAgg3 rfl rfl ⟨_, .head⟩ rfl)<|z2 (zMf rfl)<|z2 (zz underlying23 rfl) ?_
  refine z2 (y3 rfl rfl)<|z6<|zr rfl (fun ce=>?_) (fun ce=>?_)
  ·have hje : j = (EndsOf f b).length := by rw [hEb]; have h0 : (j : Int) = ((endsL f.blocks[b.toNat].term).length : Int) := (by simpa using ce); omega
   rw [if_pos hje] at hstep
   refine zSr<|z2 (zMo rfl)<|z2 (zMp rfl)<|z2 (ya rfl)<|z2 (zu underlying266 rfl sizeOf3 (by decide) rfl rfl)<|z2 (Gv.loadL (c := .int _ _) (j := 0) isAgg3 rfl rfl ⟨_, .head⟩ rfl)<|zw (rows := [[_]]) ps23_1 rfl rfl rfl rfl rfl<|yl (k := 1) underlying23 type3 rfl rfl rfl rfl rfl (fun _ => .t1) (by rw [cI_len]; omega) (by decide) rfl (by show (out.length + 1) * 8 ≤ _; omega) (by show out.length + 1 ≤ _; omega)<|fun i48 => z2 (zAo rfl)<|z6<|zSr<|z2 (zMo rfl)<|z2 (zMo rfl)<|z2 (Gv.lenO underlying267 rfl)<|z2 (Gv.sub rfl rfl (by unfold I64; show _ ∧ ((r.length + 1 : Nat) : Int) - 1 ≤ _; omega))<|AOps.cutLast (j := r.length) underlying267 sizeOf266 rfl rfl (by show ((r.length + 1 : Nat) : Int) - 1 = _; omega) .head (by decide) (by rw [stC_len])<|z2 (zAo rfl)<|z6<|y4 ?_
   exact ⟨(k + 1, i48, il), zR2, ⟨(by rw [hstep, qp]; rfl), (by rw [hstep]; rfl), trivial⟩, ⟨_, (.refl _), by rw [hstep]; dsimp only; rw [← cI_app]; rfl⟩, ⟨hk2, hsn⟩, by exact hmn⟩
  ·have hje : ¬ j = (EndsOf f b).length := by rw [hEb]; have h0 : ¬ (j : Int) = ((endsL f.blocks[b.toNat].term).length : Int) := (by simpa using ce); omega
   have hj2 : j < (endsL f.blocks[b.toNat].term).length := by rw [← hEb]; omega
   rw [if_neg hje] at hstep
   obtain ⟨c, hc⟩ : ∃ c, ge (EndsOf f b) j = c := ⟨_, rfl⟩
   have hcj : (endsL f.blocks[b.toNat].term)[j]? = some c := by rw [← hEb]; unfold ge at hc; rw [← hc, hEb, qj hj2]; rfl
   have hcr := hG.rng b hbr.1 hbr.2 c (by rw [hEb]; exact List.mem_of_getElem? hcj)
   rw [hc] at hstep
   have hgs : seen[c.toNat]? = some (gb seen c) := by unfold gb; rw [qj (by omega)]; rfl
   have hl2 := hG.len b
   rw [hEb] at hl2
   refine zc<|zSr<|z2 (zMf rfl)<|z2 (zMp rfl)<|z2 (ya rfl)<|z2 (zu underlying266 rfl sizeOf3 (by decide) rfl rfl)<|z2 (Gv.loadL (c := .int _ _) (j := 1) isAgg3 rfl rfl ⟨_, .head⟩ rfl)<|z2 (zIM j underlying23 sizeOf3 rfl rfl rfl hcj)<|z2 (zLi isAgg3 rfl)<|z2 (zAi rfl)<|z6<|zSr<|z2 (zMp rfl)<|z2 (ya rfl)<|z2 (zu underlying266 rfl sizeOf3 (by decide) rfl rfl)<|z2 (Gv.loadL (c := .int _ _) (j := 1) isAgg3 rfl rfl ⟨_, .head⟩ rfl)<|z2 (zAd rfl rfl)<|z2 (ya rfl)<|z2 (zu underlying266 rfl sizeOf3 (by decide) rfl rfl)<|AOps.storeL (j := 1) (l := [_]) (new := [_, _]) sizeOf3 rfl rfl rfl rfl rfl rfl rfl .head rfl rfl rfl<|z6<|zSr<|z2 (zMo rfl)<|z2 (zMi rfl)<|z2 (yx (j := c.toNat) underlying111 sizeOf4 rfl rfl (by omega) ⟨_, .t2⟩ (by first | rfl | (simp [cI_len, cB_len]; done) | (simp [cI_len, cB_len]; omega)) (by omega))<|z2 (Gv.loadB (j := c.toNat) isAgg4 rfl ⟨_, .t2⟩ hgs)<|z2 (yd rfl)<|z6<|zr rfl (fun cs=>?_) (fun cs=>?_)
   ·rw [if_neg (by simpa using cs)] at hstep
    refine zSr<|z2 (zMo rfl)<|z2 (zMi rfl)<|z2 (yx (j := c.toNat) underlying111 sizeOf4 rfl rfl (by omega) ⟨_, .t2⟩ (by first | rfl | (simp [cI_len, cB_len]; done) | (simp [cI_len, cB_len]; omega)) (by omega))<|AOps.storeB (j := c.toNat) sizeOf4 rfl rfl .t2 (by first | omega | (simp; omega))<|z6<|zRg<|z2 (zMo rfl)<|z2 (zMi rfl)<|z2 (y5 (cps := [(0, [_]), (1, [_])]) (rs := [_, _]) pl266 rfl rfl rfl)<|zw (rows := [[_, _]]) ps267_1 rfl rfl rfl rfl rfl<|yl (k := 2) underlying267 type266 rfl rfl rfl rfl rfl (fun _ => .head) (by rw [qp, stC_len]; show r.length * 2 + 2 = (r.length + 1) * 2; omega) (by decide) rfl (by show (r.length + 1 + 1) * 16 ≤ _; omega) (by show r.length + 1 + 1 ≤ _; omega)<|fun i80 => z2 (zAo rfl)<|z6 ?_
    exact ⟨(k + 1, io, i80), zR2, ⟨(by rw [hstep]; rfl), (by rw [hstep]; rfl), trivial⟩, ⟨_, (.refl _), by rw [hstep, stC_cons, stC_cons]; rfl⟩, ⟨hk2, hsn⟩, by exact hmn⟩
   ·rw [if_pos (by simpa using cs)] at hstep
    refine zc ?_
    exact ⟨(k + 1, io, il), zR2, ⟨(by rw [hstep]; rfl), (by rw [hstep]; rfl), trivial⟩, ⟨_, (.refl _), by rw [hstep, stC_cons]; rfl⟩, ⟨hk2, hsn⟩, by exact hmn⟩
end Go.Proofs.YtjnpcfpecilejaaGreatDoor
namespace Go.Proofs.YtjnpcfpecilejaaGreatDoor
open Go.Proofs.Tryz
section
variable {E : World} {P : Program} {n : Nat} {l : List Oper} {W : Nat → Bool} {Q : AEnv → OL → Prop} {fuel : Nat} {listed : Array Bool} {env : AEnv} {O Os Om : OL}
theorem AAny.many {is : List Nat} (hr : Region.ready .any l.toArray listed = is) (h0 : is ≠ [])
  (h : ∀ k ∈ is, ∃ o, l[k]? = some o ∧ AOps P E l.toArray (fun env' Om' => AAny P E l W Q fuel (listed.setIfInBounds k true) env' Os Om') [o] env Om) : AAny P E l W Q (fuel + 1) listed env Os Om := fun I F ρ w Ls h1 hLs h2 => by
 refine ⟨fun h0' => absurd (hr.symm.trans h0') h0, fun k hk o2 ho2 => ?_⟩
 rw [hr] at hk
 rw [List.getElem?_toArray] at ho2
 obtain ⟨o, e, h⟩ := h k hk
 rw [e] at ho2
 cases ho2
 exact q3 (fun ρ' w' ⟨J, env', Om', a, b, c, d⟩ => by
   have hst : stays I.k Ls E w' := by
    obtain ⟨J', L', h3, h4, h5⟩ := c.here
    exact ⟨J', L', a.k.trans h3, h4, h5⟩
   refine ⟨⟨hst.less, .inr hst⟩, AnyV.mono ?_ ?_ (fun _ _ => qb a) _ _ _ _ (d J F ρ' w' Ls b (hLs.mono a) c)⟩
   ·rintro w ⟨J', L', h3, h4⟩; exact ⟨J', L', a.k.trans h3, h4⟩
   ·rintro w ⟨J', L', h3, h4⟩; exact ⟨J', L', a.k.trans h3, h4⟩) _ _ _ (h I (Ls ++ F) ρ w h1 h2)
theorem AAny.four {i j m q : Nat} {o1 o2 o3 o4 : Oper} (hi : l[i]? = some o1) (hj : l[j]? = some o2) (hm : l[m]? = some o3) (hq : l[q]? = some o4) (hr : Region.ready .any l.toArray listed = [i, j, m, q])
  (h1 : AOps P E l.toArray (fun env' Om' => AAny P E l W Q fuel (listed.setIfInBounds i true) env' Os Om') [o1] env Om)
  (h2 : AOps P E l.toArray (fun env' Om' => AAny P E l W Q fuel (listed.setIfInBounds j true) env' Os Om') [o2] env Om)
  (h3 : AOps P E l.toArray (fun env' Om' => AAny P E l W Q fuel (listed.setIfInBounds m true) env' Os Om') [o3] env Om)
  (h4 : AOps P E l.toArray (fun env' Om' => AAny P E l W Q fuel (listed.setIfInBounds q true) env' Os Om') [o4] env Om) : AAny P E l W Q (fuel + 1) listed env Os Om :=
 AAny.many hr (by simp) fun k hk => by
  simp only [List.mem_cons, List.not_mem_nil, or_false] at hk
  rcases hk with rfl | rfl | rfl | rfl
  ·exact ⟨_, hi, h1⟩
  ·exact ⟨_, hj, h2⟩
  ·exact ⟨_, hm, h3⟩
  ·exact ⟨_, hq, h4⟩
end
end Go.Proofs.YtjnpcfpecilejaaGreatDoor
namespace Go.Proofs.YtjnpcfpecilejaaGreatDoor
open Go.Proofs.Tryz
def rowO (b : Nat) (T : TypeId) (vs : List Value) : AObj := .heap fun L => L = [(b, .cells vs.toArray T (0, 0))]
def rsl (b off n c : Nat) : AV := .raw (.slice (some ⟨b, off, none⟩) n c)
section
variable {E : World} {P : Program} {ops : Array Oper} {K : AEnv → OL → Prop} {env : AEnv} {O O' O'' : OL} {rest : List Oper}
variable {d ty : Nat} {pos : String} {af : Array Edge} {x y z : Operand} {t u e T : TypeId}
theorem AOps.makeRow {i : TypeInfo} {zv z1 : Value} {m : Nat} {k1 k2 : IntKind} {l l' : Int} (ht : P.underlying t = some (.slice e)) (hi : P.info? e = some i) (hz : i.zero = some zv) (hzc : zv.cells = #[z1]) (hk : i.size = 1) (hx : aev env x = .int k1 l) (hy : aev env y = .int k2 l')
  (hl : l = (m : Int)) (hl' : l' = (m : Int)) (hb : (i.bytes : Int) * (m : Int) ≤ 281474976710656) (hm : m ≤ 281474976710656) (kk : ∀ b, AOps P E ops K rest (aupd env d (rsl b 0 m m)) ((0, rowO b e (List.replicate m z1)) :: O)) :
  AOps P E ops K (Oper.mk (some d) (.makeSlice t x y) ty pos af none :: rest) env O := fun I F ρ w h1 h2 => by
 obtain ⟨htop, L, hL, hS⟩ := h2
 refine Ops.make1 ht hi hz hzc hk (evI h1 hx) (evI h1 hy) hl hl' hb hm hS fun b w' hS' => ?_
 exact kk b I F _ _ (h1.upd d rfl) ⟨htop, _, ⟨[(b, .cells (List.replicate m z1).toArray e (0, 0))], L, rfl, rfl, hL⟩, by simpa using hS'⟩
theorem Gv.rowLo {b n c j : Nat} {a : Int} (ht : P.underlying t = some (.slice e)) (hs : ∀ w, (sizeOf e).run P w = .ok 1 w) (hx : aev env x = rsl b 0 n c) (hy : aev env y = .int .i64 a) (hi : a = (j : Int)) (hj : j ≤ n) (hc : j < c) (hnc : n ≤ c) :
  Gv P env O (Oper.mk (some d) (.slice t x (some y) none none) ty pos af none) (rsl b j (n - j) (c - j)) := qe fun I ρ h => by
 have h1 := evRaw h hx
 have h2 := evI h hy
 subst hi
 refine ⟨_, rfl, fun w=>?_⟩
 have hcj : ¬ c = j := by omega
 simp [execOp, Instr.sliceAt, Instr.slice, Instr.sliceBounds, Instr.sliceBound, asIntOf, Sem.run_bind, run_underlying ht, hs, h1, h2, hcj, hj, addr_add]
theorem Gv.rowHi {b n c j : Nat} {a : Int} (ht : P.underlying t = some (.slice e)) (hs : ∀ w, (sizeOf e).run P w = .ok 1 w) (hx : aev env x = rsl b 0 n c) (hy : aev env y = .int .i64 a) (hi : a = (j : Int)) (hc : j ≤ c) :
  Gv P env O (Oper.mk (some d) (.slice t x none (some y) none) ty pos af none) (rsl b 0 j c) := qe fun I ρ h => by
 have h1 := evRaw h hx
 have h2 := evI h hy
 subst hi
 refine ⟨_, rfl, fun w=>?_⟩
 simp [execOp, Instr.sliceAt, Instr.slice, Instr.sliceBounds, Instr.sliceBound, asIntOf, Sem.run_bind, run_underlying ht, hs, h1, h2, hc, addr_add]
theorem Gv.lenRow {b off m c : Nat} (ht : P.underlying t = some (.slice T)) (hx : aev env x = rsl b off m c) : Gv P env O (Oper.mk (some d) (.call { callee := .builtin .len, args := #[x], argTypes := #[t] }) ty pos af none) (.int .i64 m) := qe fun I ρ h => by
 have h1 := evRaw h hx
 exact ⟨_, rfl, fun w => by simp [execOp, resolve, h1, invoke, builtin, Builtin.len_, run_underlying ht, goInt]⟩
theorem AOps.copyRow {b off dl dc sl q : Nat} {vs cs : List Value} {ty2 : TypeId} (ht : P.underlying t = some (.slice e)) (hs : (P.info? e).map (·.size) = some 1) (hx : aev env x = rsl b off dl dc)
  (hq : cs.length = q) (hmin : q = Nat.min sl dl) (hO : Put O 0 (rowO b T vs) (rowO b T (vs.take off ++ cs ++ vs.drop (off + q))) O') (hfit : off + q ≤ vs.length) (h1c : ∀ v ∈ cs, v.oneCell' = true)
  (hy : ∀ I F ρ w, RepE I env ρ → SLA I O F E w → ∃ a sc, ev ρ y = .slice (some a) sl sc ∧ ∀ j v, cs[j]? = some v → w.cell? (a.add j) = some v)
  (kk : AOps P E ops K rest (aupd env d (.int .i64 q)) O') :
  AOps P E ops K (Oper.mk (some d) (.call { callee := .builtin .copy, args := #[x, y], argTypes := #[t, ty2] }) ty pos af none :: rest) env O := fun I F ρ w h1 h2 => by
 obtain ⟨a, sc, ey, hsrc⟩ := hy I F ρ w h1 h2
 obtain ⟨htop, L, hL, hS⟩ := h2
 have ex := evRaw h1 hx
 obtain ⟨A, B, hp, hA, hback⟩ := hO.rep hL
 have hA : A = [(b, .cells vs.toArray T (0, 0))] := hA
 subst hA
 have hS2 : SL I.k ((b, .cells vs.toArray T (0, 0)) :: (B ++ F)) E w := hS.perm ((hp.append_right F).symm)
 have hrun := run_copy_row (P := P) w t ty2 ty e b off dl dc a sl sc vs.toArray T cs ht hs (hS2.own _ (.head _)) (by rw [hq, hmin]) hsrc (by simpa [hq] using hfit) h1c
 rw [hq] at hrun
 obtain ⟨L', h5, h6⟩ := hback (G.le.refl I) (A' := [(b, .cells (vs.take off ++ cs ++ vs.drop (off + q)).toArray T (0, 0))]) rfl
 refine qi rfl ?_
 unfold OpW
 have hex : (execOp (Go.Proofs.YtjnpcfpecilejaaGreatDoor.ev ρ) (Oper.mk (some d) (.call { callee := .builtin .copy, args := #[x, y], argTypes := #[t, ty2] }) ty pos af none)).run P w = .ok (.value (goInt q)) (w.setRow b (vs.take off ++ cs ++ vs.drop (off + q)).toArray) := by
  simp only [execOp, resolve]
  simp at hrun
  simp [invoke, builtin, ex, ey, hrun]
 rw [hex]
 refine kk I F _ _ (h1.upd d rfl) ⟨htop, L', h5, ?_⟩
 exact (hS2.turn1).perm (h6.append_right F)
theorem AWP.rowOwn {t b m : Nat} {vs : List Value} {O1 : OL} {c : Code} {Q : Exit → AEnv → OL → Prop} {n : Nat} (hv : env t = rsl b 0 m m) (hO : Pick O 0 (rowO b T vs) O1) (hm : vs.length = m) (hc : ∀ u ∈ vs, u.oneCell' = true)
  (h : ∀ i, AWP P E n c Q (aupd env t (.own i m)) ((i, .grow 1 T (vs.map lit)) :: O1)) : AWP P E n c Q env O := fun I F ρ w h1 h2 => by
 obtain ⟨i, hi⟩ := h2.name
 obtain ⟨J, e1, hle, e2, htop⟩ := hi (some b, m)
 obtain ⟨_, L, hL, hS⟩ := h2
 obtain ⟨A, B, hp, hA, hB⟩ := hO.rep hL
 have hA : A = [(b, .cells vs.toArray T (0, 0))] := hA
 subst hA
 refine (h i J F ρ w (fun q=>?_) ⟨htop, _, ⟨[(b, .cells vs.toArray T (0, 0))], B, rfl, ⟨some b, m, m, vs, e2, lit_reps J vs, hc, OwnS.made (by rw [hm, Nat.mul_one])⟩, hB.mono hle⟩, by rw [e1]; exact hS.perm (hp.symm.append_right F)⟩).mono fun _ _ _ => postE.up hle
 unfold aupd
 cases hb : Nat.beq q t with
 | false => exact RepV.mono hle _ _ (h1 q)
 | true =>
  have : q = t := Nat.eq_of_beq_eq_true hb
  subst this
  have h4 := h1 q
  rw [hv] at h4
  exact ⟨some b, m, e2, h4⟩
end
end Go.Proofs.YtjnpcfpecilejaaGreatDoor
