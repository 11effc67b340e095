/- Ranges that are widened, held against one another, cut; whether all results fit. Of int64s. -/
import Derived.Test.YtjnpcfpecilejaaGreatDoorZd
import Derived.Test.YtjnpcfpecilejaaGreatDoorZg
import Derived.Test.YtjnpcfpecilejaaGreatDoorZp
set_option linter.unusedVariables false
set_option linter.unusedSimpArgs false
set_option linter.unusedSectionVars false
namespace Go.Proofs.YtjnpcfpecilejaaGreatDoor
open Go.Proofs.Tryz
open Go.Proofs
theorem pl261 : Places Tryz.prog 261 #[(0, 2), (2, 1)] [.int .i64 0, .int .i64 0, .bool false] := ⟨_, _, underlying261, zeroValue261, fun w => by kernel_rfl, rfl⟩
theorem pl280 : PlacesA Tryz.prog 280 1 [.int .i64 0, .int .i64 0] := ⟨_, _, _, underlying280, zeroValue280, sizeOf2, rfl⟩
theorem pl283 : PlacesA Tryz.prog 283 2 [.int .i64 0, .int .i64 0, .int .i64 0, .int .i64 0] := ⟨_, _, _, underlying283, zeroValue283, sizeOf74, rfl⟩
variable {E : World}
set_option maxRecDepth 20000
theorem aMul {x y : Int} (hx : is64 x) (hy : is64 y) : AFun Tryz.prog E 237 [.int .i64 x, .int .i64 y] (.tup [.int .i64 (IntKind.i64.wrap (x * y)), .bool (decide (fit3 2 x y))]) := by
 rw [← mulB]
 refine zp func237 rfl (by decide) rfl<|za<|z7 rfl<|z2 (zAi rfl)<|z2 (zAb rfl)<|z6<|za<|z7 rfl<|z2 (zMi rfl)<|zd (aAbs hx) rfl<|z2 (zMi rfl)<|zd (aAbs hy) rfl<|zd (mul64_spec _ _ (abs_lt hx) (abs_lt hy)) rfl<|z2 (y5 (v := .tup _) rfl)<|z2 (yj (v := .int _ _) rfl rfl)<|z2 (yj (v := .int _ _) rfl rfl)<|z2 (zAi rfl)<|z2 (zAi rfl)<|z6<|za<|z7 rfl<|z2 (zAi rfl)<|z6<|za<|za<|z7 rfl<|z2 (zMi rfl)<|z2 (yc rfl rfl)<|z2 (zMi rfl)<|z2 (yc rfl rfl)<|z2 (Gv.neqB underlying4 rfl rfl)<|z6<|yi (γ := Int) [0, 1, 6, 7] (fun m => [(8, .int .u64 m)]) (fun m => []) (fun m => m = if (!(decide (x < 0) == decide (y < 0))) = true then 9223372036854775808 else 9223372036854775807) ?_ (fun _ _ h => h) ?_
 ·refine y4 rfl (fun c1 => ?_) (fun c1 => ?_)
  ·refine z7 rfl<|z2 (zMi rfl)<|z2 (Gv.addW rfl rfl)<|z2 (zAi rfl)<|z6 ?_
   exact ⟨_, zR4, zR1, zLe, by simp_all <;> first | rfl | decide⟩
  ·refine zg ?_
   exact ⟨_, zR4, zR1, zLe, by simp_all <;> first | rfl | decide⟩
 ·rintro m hm
  subst hm
  refine za<|z7 rfl<|z2 (zMi rfl)<|z2 (zMi rfl)<|z2 (Gv.mulW rfl rfl)<|z2 (zMi rfl)<|z2 (zy rfl rfl)<|z2 (zMb rfl)<|zr (s := 29) rfl (fun c2 => ?_) (fun c2 => ?_)
  ·refine zb rfl rfl c2<|z2 (zMi rfl)<|zb rfl rfl c2<|z2 (zMi rfl)<|zb rfl rfl c2<|z2 (Gv.leq rfl rfl)<|z2 (zPt rfl c2 rfl)<|z2 (zAi rfl)<|z2 (zAb rfl)<|z6<|zf<|qd (x := .int _ _) (y := .bool _) rfl rfl ?_
   simp_all
  ·refine z8 rfl rfl c2<|z8 rfl rfl c2<|z8 rfl rfl c2<|z2 (zPf rfl c2 rfl)<|z2 (zAi rfl)<|z2 (zAb rfl)<|z6<|zf<|qd (x := .int _ _) (y := .bool _) rfl rfl ?_
   simp_all
theorem hull_add (i : Nat) (h : Rng × Bool) (n : Int) (fits : Bool) (e : Int) : ACall Tryz.prog E 234 [.po i 0, .int .i64 n, .bool fits, .int .i64 e] [(i, .cells 261 (encH h))] fun r O => r = .tup [] ∧ O = [(i, .cells 261 (encH (hAdd h n fits e)))] := by
 refine zp func234 rfl (by decide) rfl<|za<|za<|z7 rfl<|z2 (zMb rfl)<|z2 (yk rfl)<|z6<|yi (γ := Int × Bool) [0] (fun g => [(1, .int .i64 g.1)]) (fun g => [(i, .cells 261 (encH (h.1, g.2)))]) (fun g => g.1 = (if fits then n else e) ∧ g.2 = (h.2 || !fits)) ?_ (fun _ _ h => h) ?_
 ·refine y4 rfl (fun c => ?_) (fun c => ?_)
  ·refine z7 rfl<|z2 (y5 (v := .po _ _) rfl)<|z2 (zMi rfl)<|z2 (yt rfl)<|z2 (zt underlying261 rfl sizeOf4 (by decide) rfl rfl)<|q0 (l := [_]) (new := [_, _, _]) sizeOf4 rfl rfl rfl rfl rfl rfl .head rfl rfl<|z2 (zAi rfl)<|z6 ?_
   exact ⟨(e, true), zR1, zR1, zLe, by simp_all⟩
  ·refine zg ?_
   exact ⟨(n, h.2), zR1, zR1, zLe, by simp_all⟩
 ·rintro ⟨m, w⟩ ⟨h1, h2⟩
  dsimp only at h1 h2
  subst h1 h2
  refine zw (fun j => Nat.beq j 10) (by kernel_rfl) rfl (zu (.r (.rest _)))<|zTk (i := 0) rfl (y5 (v := .po _ _) rfl)<|zTk (i := 1) rfl (y5 (v := .po _ _) rfl)<|zTk (i := 2) rfl (yt rfl)<|zTk (i := 3) rfl (zt underlying261 rfl sizeOf74 (by decide) rfl rfl)<|zTk (i := 4) rfl (yn (l := [_, _]) isAgg74 sizeOf74 rfl ⟨_, .head⟩ rfl rfl)<|zTk (i := 5) rfl (zMi rfl)<|zOn (i := 6) rfl<|zd (iOf _) rfl<|z6<|zOn (i := 7) rfl<|zd (iJoin _ _) rfl<|z6<|AAny.takeK (i := 8) rfl (by kernel_rfl) (by kernel_rfl) (by kernel_rfl) (by kernel_rfl) (yt rfl)<|zTk (i := 9) rfl (zt underlying261 rfl sizeOf74 (by decide) rfl rfl)<|ym<|yv (i := 10) rfl (by kernel_rfl) (by kernel_rfl)<|q0 (l := [_, _]) (new := [_, _, _]) sizeOf74 rfl rfl rfl rfl rfl rfl .head rfl rfl<|z6<|yr (by kernel_rfl)<|afin.t0 ?_
  exact ⟨rfl, rfl⟩
set_option maxHeartbeats 4000000 in
theorem iCorners (op : Int) (k : Nat) (hk : k ≤ 2) (hop : op = 2 + (k : Int)) {a b : Rng} (ha : ok64 a) (hb : ok64 b) : AFun Tryz.prog E 218 [.int .i64 op, .agg (encZ a), .agg (encZ b)] (.agg (encH (cornP k a b))) := by
 obtain ⟨st, hst⟩ : ∃ st, hSt (op3 k) (fun x y => decide (fit3 k x y)) (near3 k) (noR, false) a b = st := ⟨_, rfl⟩
 have hstep : ∀ (i j : Nat), j < 2 → st (2 * i + (j + 1)) = hAdd (st (2 * i + j)) (op3 k (selR a i) (selR b j)) (decide (fit3 k (selR a i) (selR b j))) (near3 k (selR a i) (selR b j)) := fun i j hj => by rw [← hst]; exact hSt_step i hj
 have h4 : st 4 = cornP k a b := by rw [← hst]; rfl
 have h0 : st 0 = (noR, false) := by rw [← hst]; rfl
 refine zp func218 rfl (by decide) rfl<|za<|z7 rfl<|y7 (cs := _) rfl rfl rfl<|y7 (cs := _) rfl rfl rfl<|zq (cs := [.int .i64 0, .int .i64 0, .bool false]) zeroValue261 rfl rfl<|fun i6 => z6<|za<|z7 rfl<|zd (iNone) rfl<|z2 (y3 (cps := [(0, [_, _])]) (rs := [_, _, .bool false]) pl261 rfl rfl rfl)<|zq (cs := [.int .i64 0, .int .i64 0, .bool false]) zeroValue261 rfl rfl<|fun i7 => ze sizeOf261 rfl rfl rfl rfl rfl rfl .head rfl<|z6<|za<|za<|z7 rfl<|z2 (zc underlying74 rfl sizeOf2 (by decide) rfl rfl)<|z2 (zLi isAgg2 rfl)<|z2 (zc underlying74 rfl sizeOf2 (by decide) rfl rfl)<|z2 (zLi isAgg2 rfl)<|z2 (Gv.buildA (cps := [(0, [_]), (1, [_])]) (rs := [_, _]) pl280 rfl rfl rfl)<|z2 (zMi rfl)<|z6<|zm<|ya (γ := Nat) [0, 5, 6, 7, 24] (fun i => [(25, .int .i64 i)]) (fun i => [(i7, .cells 261 (encH (st (2 * i)))), (i6, .cells 261 [.int .i64 0, .int .i64 0, .bool false])]) (fun i => i ≤ 2) (fun i => 2 - i) 0 zR1 ⟨_, (.refl _), by rw [h0]; rfl⟩ ((by omega)) ?_
 rintro i hi
 refine za<|z7 rfl<|z2 (yc rfl rfl)<|z6<|za<|zn rfl (fun ci => ?_) (fun ci => ?_)
 ·have hi2 : i < 2 := by omega
  have hx := sel_ok ha i
  refine zg<|za<|zm<|za<|z7 rfl<|z2 (Gv.index1 (n := 2) (j := i) (cs := [.int .i64 a.1, .int .i64 a.2]) (v := .int .i64 (selR a i)) underlying280 isAgg2 sizeOf2 rfl rfl rfl hi2 (sel_get hi2))<|z2 (zAi rfl)<|z6<|za<|z7 rfl<|z2 (zc underlying74 rfl sizeOf2 (by decide) rfl rfl)<|z2 (zLi isAgg2 rfl)<|z2 (zc underlying74 rfl sizeOf2 (by decide) rfl rfl)<|z2 (zLi isAgg2 rfl)<|z2 (Gv.buildA (cps := [(0, [_]), (1, [_])]) (rs := [_, _]) pl280 rfl rfl rfl)<|z2 (zMi rfl)<|z6<|zm<|ya (γ := Nat) [0, 5, 6, 7, 9, 24, 25, 32] (fun j => [(33, .int .i64 j)]) (fun j => [(i7, .cells 261 (encH (st (2 * i + j)))), (i6, .cells 261 [.int .i64 0, .int .i64 0, .bool false])]) (fun j => j ≤ 2) (fun j => 2 - j) 0 zR1 zLe ((by omega)) ?_
  rintro j hj
  refine za<|z7 rfl<|z2 (yc rfl rfl)<|z6<|za<|zn rfl (fun cj => ?_) (fun cj => ?_)
  ·have hj2 : j < 2 := by omega
   have hy := sel_ok hb j
   have hs := hstep i j hj2
   refine zg<|za<|zm<|za<|z7 rfl<|z2 (Gv.index1 (n := 2) (j := j) (cs := [.int .i64 b.1, .int .i64 b.2]) (v := .int .i64 (selR b j)) underlying280 isAgg2 sizeOf2 rfl rfl rfl hj2 (sel_get hj2))<|z2 (zAi rfl)<|z6<|za<|z7 rfl<|z2 (zMi rfl)<|z6<|zm<|za<|z7 rfl<|z2 (zy rfl rfl)<|z2 (zAb rfl)<|z6<|zn rfl (fun c2 => ?_) (fun c2 => ?_)
   ·have hk0 : k = 0 := by omega
    subst hk0
    refine za<|z7 rfl<|z2 (zMi rfl)<|z2 (zMi rfl)<|zd (aAdd hx hy) rfl<|z2 (y5 (v := .tup _) rfl)<|z2 (yj (v := .int _ _) rfl rfl)<|z2 (yj (v := .bool _) rfl rfl)<|z2 (zAi rfl)<|z2 (zAb rfl)<|z6<|z7 rfl<|z2 (zMi rfl)<|z2 (zMb rfl)<|z2 (zMi rfl)<|z2 (yc rfl rfl)<|zd (iNear _) rfl<|yb rfl (zu (.l (.r (.rest _)))) (hull_add i7 _ _ _ _) ?_
    rintro r50 O50 ⟨rfl, rfl⟩
    refine z6<|z7 rfl<|z2 (yd rfl rfl (by unfold I64; omega))<|z2 (zMi rfl)<|z6 ?_
    exact ⟨j + 1, zR8, zR1, ⟨_, (.refl _), by rw [hs, hAdd_fit add_fit (near_0 _ (selR b j))]; rfl⟩, hj2, by omega⟩
   ·refine za<|z7 rfl<|z2 (zy rfl rfl)<|z2 (zAb rfl)<|z6<|zn rfl (fun c3 => ?_) (fun c3 => ?_)
    ·have hk0 : k = 1 := by omega
     subst hk0
     refine za<|z7 rfl<|z2 (zMi rfl)<|z2 (zMi rfl)<|zd (aSub hx hy) rfl<|z2 (y5 (v := .tup _) rfl)<|z2 (yj (v := .int _ _) rfl rfl)<|z2 (yj (v := .bool _) rfl rfl)<|z2 (zAi rfl)<|z2 (zAb rfl)<|z6<|z7 rfl<|z2 (zMi rfl)<|z2 (zMb rfl)<|z2 (zMi rfl)<|z2 (yc rfl rfl)<|zd (iNear _) rfl<|yb rfl (zu (.l (.r (.rest _)))) (hull_add i7 _ _ _ _) ?_
     rintro r64 O64 ⟨rfl, rfl⟩
     refine z6<|z7 rfl<|z2 (yd rfl rfl (by unfold I64; omega))<|z2 (zMi rfl)<|z6 ?_
     exact ⟨j + 1, zR8, zR1, ⟨_, (.refl _), by rw [hs, hAdd_fit sub_fit (near_1 _ (selR b j))]; rfl⟩, hj2, by omega⟩
    ·refine za<|z7 rfl<|z2 (zy rfl rfl)<|z2 (zAb rfl)<|z6<|zn rfl (fun c4 => ?_) (fun c4 => ?_)
     ·have hk0 : k = 2 := by omega
      subst hk0
      refine za<|z7 rfl<|z2 (zMi rfl)<|z2 (zMi rfl)<|zd (aMul hx hy) rfl<|z2 (y5 (v := .tup _) rfl)<|z2 (yj (v := .int _ _) rfl rfl)<|z2 (yj (v := .bool _) rfl rfl)<|z2 (zAi rfl)<|z2 (zAb rfl)<|z6<|z7 rfl<|z2 (zMi rfl)<|z2 (zMb rfl)<|z2 (zMi rfl)<|z2 (yc rfl rfl)<|z2 (zMi rfl)<|z2 (yc rfl rfl)<|z2 (Gv.neqB underlying4 rfl rfl)<|zd (iNear _) rfl<|yb rfl (zu (.l (.r (.rest _)))) (hull_add i7 _ _ _ _) ?_
      rintro r81 O81 ⟨rfl, rfl⟩
      refine z6<|z7 rfl<|z2 (yd rfl rfl (by unfold I64; omega))<|z2 (zMi rfl)<|z6 ?_
      exact ⟨j + 1, zR8, zR1, ⟨_, (.refl _), by rw [hs, hAdd_fit mul_fit3 (near_2 _ (selR b j))]; rfl⟩, hj2, by omega⟩
     ·exfalso; omega
  ·have hj2 : j = 2 := by omega
   subst hj2
   refine y8<|z7 rfl<|z2 (yd rfl rfl (by unfold I64; omega))<|z2 (zMi rfl)<|z6 ?_
   exact ⟨i + 1, zR5, zR1, ⟨_, (.refl _), by rw [show 2 * (i + 1) = 2 * i + 2 by omega]⟩, hi2, by omega⟩
 ·have hi2 : i = 2 := by omega
  subst hi2
  refine y8<|za<|z7 rfl<|z2 (yw isAgg261 sizeOf261 rfl ⟨_, .head⟩ rfl)<|ze sizeOf261 rfl rfl rfl rfl rfl rfl (.tail .head) rfl<|z6<|zf<|yf rfl ⟨_, (.tail .head)⟩ isAgg261 sizeOf261 rfl ?_
  rw [← h4]; try rfl
theorem iQuot {a b : Rng} (ha : ok64 a) : AFun Tryz.prog E 219 [.agg (encZ a), .agg (encZ b)] (.agg (encZ (quotP a b))) := by
 have h0 : quoT a b 0 = (noR, false) := rfl
 refine zp func219 rfl (by decide) rfl<|za<|z7 rfl<|y7 (cs := _) rfl rfl rfl<|y7 (cs := _) rfl rfl rfl<|zq (cs := [.int .i64 0, .int .i64 0]) zeroValue74 rfl rfl<|fun i4 => z6<|za<|z7 rfl<|zd (iNone) rfl<|z2 (y3 (cps := [(0, [_, _])]) (rs := [_, _, .bool false]) pl261 rfl rfl rfl)<|zq (cs := [.int .i64 0, .int .i64 0, .bool false]) zeroValue261 rfl rfl<|fun i5 => ze sizeOf261 rfl rfl rfl rfl rfl rfl .head rfl<|z6<|za<|za<|zw (fun j => false) (by kernel_rfl) rfl (zu (.rest _))<|zTk (i := 0) rfl (zj isAgg74 sizeOf74 rfl rfl)<|zTk (i := 1) rfl (y3 (cps := [(0, [_]), (1, [_])]) (rs := [_, _]) pl74 rfl rfl rfl)<|zTk (i := 3) rfl (zj isAgg74 sizeOf74 rfl rfl)<|zTk (i := 4) rfl (y3 (cps := [(0, [_]), (1, [_])]) (rs := [_, _]) pl74 rfl rfl rfl)<|zTk (i := 7) rfl (zMi rfl)<|zOn (i := 2) rfl<|zd (iMeet b (m64, -1)) rfl<|z6<|zOn (i := 5) rfl<|zd (iMeet b (1, M64)) rfl<|z6<|zTk (i := 6) rfl (Gv.buildA (cps := [(0, [_, _]), (1, [_, _])]) (rs := [_, _, _, _]) pl283 rfl rfl rfl)<|zDn<|zm<|ya (γ := Nat) [2, 4, 5, 22] (fun q => [(23, .int .i64 q)]) (fun q => [(i5, .cells 261 (encH (quoT a b q))), (i4, .cells 74 [.int .i64 0, .int .i64 0])]) (fun q => q ≤ 2) (fun q => 2 - q) 0 zR1 zLe ((by omega)) ?_
 rintro q hq
 refine za<|z7 rfl<|z2 (yc rfl rfl)<|z6<|za<|zn rfl (fun cq => ?_) (fun cq => ?_)
 ·have hq2 : q < 2 := by omega
  have hqs : quoT a b (q + 1) = quoH a (partR b q) (quoT a b q) := rfl
  obtain ⟨p, hp⟩ : ∃ p, partR b q = p := ⟨_, rfl⟩
  have hpg := part_get (b := b) hq2
  rw [hp] at hqs hpg
  refine zg<|za<|zm<|za<|z7 rfl<|z2 (Gv.indexA (n := 2) (j := q) (k := 2) (cs := encZ (rMeet b (m64, -1)) ++ encZ (rMeet b (1, M64))) (l := encZ p) underlying283 isAgg74 sizeOf74 rfl rfl rfl hq2 hpg)<|zq (cs := [.int .i64 0, .int .i64 0]) zeroValue74 rfl rfl<|fun i7 => ze sizeOf74 rfl rfl rfl rfl rfl rfl .head rfl<|z6<|yl (yh (t := 7) rfl .head)<|za<|za<|z7 rfl<|z2 (zj isAgg74 sizeOf74 rfl rfl)<|zd (iEmpty _) rfl<|z6<|zn rfl (fun ce => ?_) (fun ce => ?_)
  ·refine y8<|z7 rfl<|z2 (yd rfl rfl (by unfold I64; omega))<|z2 (zMi rfl)<|z6 ?_
   exact ⟨q + 1, zR4, zR1, ⟨_, (.refl _), by rw [hqs, quoH, if_pos ce]⟩, hq2, by omega⟩
  ·obtain ⟨st, hst⟩ : ∃ st, hSt Int.tdiv fitD (fun _ _ => M64) (quoT a b q) a p = st := ⟨_, rfl⟩
   have hstep : ∀ (i j : Nat), j < 2 → st (2 * i + (j + 1)) = hAdd (st (2 * i + j)) ((selR a i).tdiv (selR p j)) (fitD (selR a i) (selR p j)) M64 := fun i j hj => by rw [← hst]; exact hSt_step i hj
   have h4 : st 4 = quoT a b (q + 1) := by rw [hqs, quoH, if_neg ce, ← hst]; rfl
   have hs0 : st 0 = quoT a b q := by rw [← hst]; rfl
   refine zg<|za<|z7 rfl<|z2 (zc underlying74 rfl sizeOf2 (by decide) rfl rfl)<|z2 (zLi isAgg2 rfl)<|z2 (zc underlying74 rfl sizeOf2 (by decide) rfl rfl)<|z2 (zLi isAgg2 rfl)<|z2 (Gv.buildA (cps := [(0, [_]), (1, [_])]) (rs := [_, _]) pl280 rfl rfl rfl)<|z2 (zMi rfl)<|z6<|zm<|ya (γ := Nat) [2, 4, 5, 7, 22, 23, 32] (fun i => [(33, .int .i64 i)]) (fun i => [(i5, .cells 261 (encH (st (2 * i)))), (i4, .cells 74 [.int .i64 0, .int .i64 0])]) (fun i => i ≤ 2) (fun i => 2 - i) 0 zR1 ⟨_, (.refl _), by rw [hs0]⟩ ((by omega)) ?_
   rintro i hi
   refine za<|z7 rfl<|z2 (yc rfl rfl)<|z6<|za<|zn rfl (fun ci => ?_) (fun ci => ?_)
   ·have hi2 : i < 2 := by omega
    have hx := sel_ok ha i
    refine zg<|za<|zm<|za<|z7 rfl<|z2 (Gv.index1 (n := 2) (j := i) (cs := [.int .i64 a.1, .int .i64 a.2]) (v := .int .i64 (selR a i)) underlying280 isAgg2 sizeOf2 rfl rfl rfl hi2 (sel_get hi2))<|z2 (zAi rfl)<|z6<|za<|z7 rfl<|z2 (zc underlying74 rfl sizeOf2 (by decide) rfl rfl)<|z2 (zLi isAgg2 rfl)<|z2 (zc underlying74 rfl sizeOf2 (by decide) rfl rfl)<|z2 (zLi isAgg2 rfl)<|z2 (Gv.buildA (cps := [(0, [_]), (1, [_])]) (rs := [_, _]) pl280 rfl rfl rfl)<|z2 (zMi rfl)<|z6<|zm<|ya (γ := Nat) [2, 4, 5, 7, 9, 22, 23, 32, 33, 40] (fun j => [(41, .int .i64 j)]) (fun j => [(i5, .cells 261 (encH (st (2 * i + j)))), (i4, .cells 74 [.int .i64 0, .int .i64 0])]) (fun j => j ≤ 2) (fun j => 2 - j) 0 zR1 zLe ((by omega)) ?_
    rintro j hj
    refine za<|z7 rfl<|z2 (yc rfl rfl)<|z6<|za<|zn rfl (fun cj => ?_) (fun cj => ?_)
    ·have hj2 : j < 2 := by omega
     have hs := hstep i j hj2
     have hy : selR p j ≠ 0 := by have := part_nz (b := b) (q := q) (j := j) (by rw [hp]; exact ce); rwa [hp] at this
     refine zg<|za<|zm<|za<|z7 rfl<|z2 (Gv.index1 (n := 2) (j := j) (cs := [.int .i64 p.1, .int .i64 p.2]) (v := .int .i64 (selR p j)) underlying280 isAgg2 sizeOf2 rfl rfl rfl hj2 (sel_get hj2))<|z2 (zAi rfl)<|z6<|za<|z7 rfl<|z2 (zMi rfl)<|z2 (zMi rfl)<|zd (aDiv hy) rfl<|z2 (y5 (v := .tup _) rfl)<|z2 (yj (v := .int _ _) rfl rfl)<|z2 (yj (v := .bool _) rfl rfl)<|z2 (zAi rfl)<|z2 (zAb rfl)<|z6<|z7 rfl<|z2 (zMi rfl)<|z2 (zMi rfl)<|z2 (yq rfl rfl)<|z2 (zMb rfl)<|zr (s := 53) rfl (fun c1 => ?_) (fun c1 => ?_)
     ·have hf : fitD (selR a i) (selR p j) = true := by unfold fitD; simp_all [m64]
      refine z8 rfl rfl c1<|z8 rfl rfl c1<|z2 (zPt rfl c1 rfl)<|yb rfl (zu (.l (.r (.rest _)))) (hull_add i5 _ _ _ _) ?_
      rintro r57 O57 ⟨rfl, rfl⟩
      refine z6<|z7 rfl<|z2 (yd rfl rfl (by unfold I64; omega))<|z2 (zMi rfl)<|z6 ?_
      exact ⟨j + 1, zR10, zR1, ⟨_, (.refl _), by rw [hs, hf, hAdd_fit (fits := true) (fun _ => quo_fit hx hy hf) (show (9223372036854775807 : Int) = M64 from rfl)]; rfl⟩, hj2, by omega⟩
     ·have hf : fitD (selR a i) (selR p j) = !decide (selR p j = -1) := by unfold fitD; simp_all [m64]
      refine zb rfl rfl c1<|z2 (zMi rfl)<|zb rfl rfl c1<|z2 (yq rfl rfl)<|z2 (zPf rfl c1 rfl)<|yb rfl (zu (.l (.r (.rest _)))) (hull_add i5 _ _ _ _) ?_
      rintro r57 O57 ⟨rfl, rfl⟩
      refine z6<|z7 rfl<|z2 (yd rfl rfl (by unfold I64; omega))<|z2 (zMi rfl)<|z6 ?_
      exact ⟨j + 1, zR10, zR1, ⟨_, (.refl _), by rw [hs, hf, hAdd_fit (fits := !decide (selR p j = -1)) (fun h => quo_fit hx hy (by rw [hf]; exact h)) (show (9223372036854775807 : Int) = M64 from rfl)]; rfl⟩, hj2, by omega⟩
    ·have hj2 : j = 2 := by omega
     subst hj2
     refine y8<|z7 rfl<|z2 (yd rfl rfl (by unfold I64; omega))<|z2 (zMi rfl)<|z6 ?_
     exact ⟨i + 1, zR7, zR1, ⟨_, (.refl _), by rw [show 2 * (i + 1) = 2 * i + 2 by omega]⟩, hi2, by omega⟩
   ·have hi2 : i = 2 := by omega
    subst hi2
    refine y8<|z7 rfl<|z2 (yd rfl rfl (by unfold I64; omega))<|z2 (zMi rfl)<|z6 ?_
    exact ⟨q + 1, zR4, zR1, ⟨_, (.refl _), by rw [← h4]⟩, hq2, by omega⟩
 ·have hq2 : q = 2 := by omega
  subst hq2
  refine y8<|za<|za<|z7 rfl<|z2 (zt underlying261 rfl sizeOf4 (by decide) rfl rfl)<|z2 (zx (c := .bool _) isAgg4 rfl ⟨_, .head⟩ rfl)<|z6<|y4 rfl (fun cw => ?_) (fun cw => ?_)
  ·refine za<|z7 rfl<|zd (iAll) rfl<|ze sizeOf74 rfl rfl rfl rfl rfl rfl (.tail .head) rfl<|z6<|zf<|yf rfl ⟨_, (.tail .head)⟩ isAgg74 sizeOf74 rfl ?_
   rw [quoT_2, if_pos cw]; try rfl
  ·refine zg<|za<|z7 rfl<|z2 (zt underlying261 rfl sizeOf74 (by decide) rfl rfl)<|z2 (yn (l := [_, _]) isAgg74 sizeOf74 rfl ⟨_, .head⟩ rfl rfl)<|ze sizeOf74 rfl rfl rfl rfl rfl rfl (.tail .head) rfl<|z6<|zf<|yf rfl ⟨_, (.tail .head)⟩ isAgg74 sizeOf74 rfl ?_
   rw [quoT_2, if_neg (by simpa using cw)]; try rfl
theorem iRests {a b : Rng} (ha : ok64 a) (hb : ok64 b) : AFun Tryz.prog E 220 [.agg (encZ a), .agg (encZ b)] (.agg (encZ (restP a b))) := by
 have ha1 := ha.1; have ha2 := ha.2; have hb1 := hb.1; have hb2 := hb.2
 unfold is64 at ha1 ha2 hb1 hb2
 refine zp func220 rfl (by decide) rfl<|za<|z7 rfl<|y7 (cs := _) rfl rfl rfl<|y7 (cs := _) rfl rfl rfl<|zq (cs := [.int .i64 0, .int .i64 0]) zeroValue74 rfl rfl<|fun i4 => z6<|za<|za<|zw (fun j => false) (by kernel_rfl) rfl (zu (.rest _))<|zTk (i := 0) rfl (zj isAgg74 sizeOf74 rfl rfl)<|zOn (i := 1) rfl<|zd (iOf _) rfl<|z6<|zTk (i := 2) rfl (Gv.eqlP (xs := [.int _ _, .int _ _]) (ys := [.int _ _, .int _ _]) (by kernel_rfl) rfl rfl (fun w => eq_range _ _ _ _ w))<|zDn<|zn rfl (fun c0 => ?_) (fun c0 => ?_)
 ·refine za<|z7 rfl<|zd (iNone) rfl<|ze sizeOf74 rfl rfl rfl rfl rfl rfl .head rfl<|z6<|zf<|yf rfl ⟨_, .head⟩ isAgg74 sizeOf74 rfl ?_
  rw [restP, if_pos (by obtain ⟨b1, b2⟩ := b; obtain ⟨h1, h2⟩ := c0; exact Prod.ext h1 h2)]; try rfl
 ·have c0 : ¬ b = (0, 0) := fun e => c0 (by rw [e]; exact ⟨rfl, rfl⟩)
  refine zg<|za<|z7 rfl<|z2 (zAi rfl)<|z6<|za<|za<|z7 rfl<|z2 (zc underlying74 rfl sizeOf2 (by decide) rfl rfl)<|z2 (zLi isAgg2 rfl)<|z2 (yc rfl rfl)<|z6<|yi (γ := Int) [2, 3, 4] (fun k => [(5, .int .i64 k)]) (fun k => [(i4, .cells 74 [.int .i64 0, .int .i64 0])]) (fun k => k = if b.1 < 0 then -(b.1 + 1) else 0) ?_ (fun _ _ h => h) ?_
  ·refine zn rfl (fun c1 => ?_) (fun c1 => ?_)
   ·refine z7 rfl<|z2 (zc underlying74 rfl sizeOf2 (by decide) rfl rfl)<|z2 (zLi isAgg2 rfl)<|z2 (yd rfl rfl (by unfold I64; omega))<|z2 (Gv.neg rfl)<|z2 (zAi rfl)<|z6 ?_
    exact ⟨IntKind.i64.wrap (0 - (b.1 + 1)), zR3, zR1, zLe, by rw [if_pos c1, wrap_fit (by unfold is64; omega)]; omega⟩
   ·refine zg ?_
    exact ⟨0, zR3, zR1, zLe, by rw [if_neg c1]⟩
  ·rintro k hk
   have hkr : 0 ≤ k ∧ k ≤ 9223372036854775807 := by rw [hk]; split <;> omega
   refine za<|za<|z7 rfl<|z2 (zc underlying74 rfl sizeOf2 (by decide) rfl rfl)<|z2 (zLi isAgg2 rfl)<|z2 (yx rfl rfl)<|z6<|yi (γ := Int) [2, 4] (fun m => [(5, .int .i64 m)]) (fun m => [(i4, .cells 74 [.int .i64 0, .int .i64 0])]) (fun m => m = if 0 < b.2 then imax k (b.2 - 1) else k) ?_ (fun _ _ h => h) ?_
   ·refine zn rfl (fun c1 => ?_) (fun c1 => ?_)
    ·refine z7 rfl<|z2 (zMi rfl)<|z2 (zc underlying74 rfl sizeOf2 (by decide) rfl rfl)<|z2 (zLi isAgg2 rfl)<|z2 (Gv.sub rfl rfl (by unfold I64; omega))<|z2 (Gv.maxI rfl rfl)<|z2 (zAi rfl)<|z6 ?_
     exact ⟨imax k (b.2 - 1), zR2, zR1, zLe, by rw [if_pos c1]⟩
    ·refine zg ?_
     exact ⟨k, zR2, zR1, zLe, by rw [if_neg c1]⟩
   ·rintro m hm
    have hmr : 0 ≤ m ∧ m ≤ 9223372036854775807 := by rw [hm]; unfold imax; (repeat' split) <;> omega
    have hr : restP a b = (if a.1 < 0 then imax a.1 (-m) else 0, if 0 < a.2 then imin a.2 m else 0) := by subst hm hk; rw [restP, if_neg c0]
    rw [hr]
    refine za<|z7 rfl<|zd (iOf _) rfl<|zq (cs := [.int .i64 0, .int .i64 0]) zeroValue74 rfl rfl<|fun i6 => ze sizeOf74 rfl rfl rfl rfl rfl rfl .head rfl<|z6<|za<|za<|z7 rfl<|z2 (zc underlying74 rfl sizeOf2 (by decide) rfl rfl)<|z2 (zLi isAgg2 rfl)<|z2 (yc rfl rfl)<|z6<|yi (γ := Int) [2, 4, 5, 6] (fun x => []) (fun x => [(i6, .cells 74 [.int .i64 x, .int .i64 0]), (i4, .cells 74 [.int .i64 0, .int .i64 0])]) (fun x => x = if a.1 < 0 then imax a.1 (-m) else 0) ?_ (fun _ _ h => h) ?_
    ·refine zn rfl (fun c1 => ?_) (fun c1 => ?_)
     ·refine z7 rfl<|z2 (zc underlying74 rfl sizeOf2 (by decide) rfl rfl)<|z2 (zLi isAgg2 rfl)<|z2 (zMi rfl)<|z2 (Gv.neg rfl)<|z2 (Gv.maxI rfl rfl)<|z2 (zt underlying74 rfl sizeOf2 (by decide) rfl rfl)<|q0 (l := [_]) (new := [_, _]) sizeOf2 rfl rfl rfl rfl rfl rfl .head rfl rfl<|z6 ?_
      exact ⟨imax a.1 (IntKind.i64.wrap (0 - m)), zR4, trivial, zLe, by rw [if_pos c1, wrap_fit (by unfold is64; omega), Int.zero_sub]⟩
     ·refine zg ?_
      exact ⟨0, zR4, trivial, zLe, by rw [if_neg c1]⟩
    ·rintro x hx
     refine za<|za<|z7 rfl<|z2 (zc underlying74 rfl sizeOf2 (by decide) rfl rfl)<|z2 (zLi isAgg2 rfl)<|z2 (yx rfl rfl)<|z6<|zn rfl (fun c1 => ?_) (fun c1 => ?_)
     ·refine z7 rfl<|z2 (zc underlying74 rfl sizeOf2 (by decide) rfl rfl)<|z2 (zLi isAgg2 rfl)<|z2 (zMi rfl)<|z2 (Gv.minI rfl rfl)<|z2 (zt underlying74 rfl sizeOf2 (by decide) rfl rfl)<|q0 (l := [_]) (new := [_, _]) sizeOf2 rfl rfl rfl rfl rfl rfl .head rfl rfl<|z6<|za<|z7 rfl<|z2 (yw isAgg74 sizeOf74 rfl ⟨_, .head⟩ rfl)<|ze sizeOf74 rfl rfl rfl rfl rfl rfl (.tail .head) rfl<|z6<|zf<|yf rfl ⟨_, (.tail .head)⟩ isAgg74 sizeOf74 rfl ?_
      rw [← hx, if_pos c1]; try rfl
     ·refine zg<|za<|z7 rfl<|z2 (yw isAgg74 sizeOf74 rfl ⟨_, .head⟩ rfl)<|ze sizeOf74 rfl rfl rfl rfl rfl rfl (.tail .head) rfl<|z6<|zf<|yf rfl ⟨_, (.tail .head)⟩ isAgg74 sizeOf74 rfl ?_
      rw [← hx, if_neg c1]; try rfl
def applyP (op : Int) (a b : Rng) : Rng :=
 if a.2 < a.1 ∨ b.2 < b.1 then noR else if op = 2 then sumP 0 a b false else if op = 3 then sumP 1 a b false else if op = 4 then sumP 2 a b false else if op = 5 then quotP a b else if op = 6 then restP a b else allR
def clipP (op : Int) (a b : Rng) : Rng :=
 if a.2 < a.1 ∨ b.2 < b.1 then noR else if op = 2 then sumP 0 a b true else if op = 3 then sumP 1 a b true else if op = 4 then sumP 2 a b true else if op = 5 then quotP a b else if op = 6 then restP a b else allR
theorem sum_op {op : Int} (h : op = 2 ∨ op = 3 ∨ op = 4) : ∃ k : Nat, k ≤ 2 ∧ op = 2 + (k : Int) := ⟨(op - 2).toNat, by omega, by omega⟩
theorem apply_sum {op : Int} {k : Nat} (hk : k ≤ 2) (h : op = 2 + (k : Int)) {a b : Rng} (hn : ¬ (a.2 < a.1 ∨ b.2 < b.1)) : applyP op a b = sumP k a b false ∧ clipP op a b = sumP k a b true := by
 unfold applyP clipP
 rw [if_neg hn, if_neg hn]
 rcases (by omega : k = 0 ∨ k = 1 ∨ k = 2) with rfl | rfl | rfl <;> subst h <;> exact ⟨rfl, rfl⟩
theorem apply_clip {op : Int} {a b : Rng} (hc : (a.2 < a.1 ∨ b.2 < b.1) ∨ ¬ (op = 2 ∨ op = 3 ∨ op = 4)) : applyP op a b = clipP op a b := by
 unfold applyP clipP
 by_cases h : a.2 < a.1 ∨ b.2 < b.1
 ·rw [if_pos h, if_pos h]
 ·have hs : ¬ (op = 2 ∨ op = 3 ∨ op = 4) := hc.resolve_left h
  rw [not_or, not_or] at hs
  obtain ⟨h2, h3, h4⟩ := hs
  rw [if_neg h, if_neg h]
  simp only [h2, h3, h4, if_false]
theorem iApply (op : Int) {a b : Rng} (ha : ok64 a) (hb : ok64 b) : AFun Tryz.prog E 178 [.int .i64 op, .agg (encZ a), .agg (encZ b)] (.agg (encZ (applyP op a b))) := by
 refine zp func178 rfl (by decide) rfl<|za<|z7 rfl<|y7 (cs := _) rfl rfl rfl<|y7 (cs := _) rfl rfl rfl<|zq (cs := [.int .i64 0, .int .i64 0]) zeroValue74 rfl rfl<|fun i6 => z6<|za<|zm<|za<|yi (γ := Bool) [0, 4, 5, 6] (fun u => [(8, .bool u)]) (fun u => [(i6, .cells 74 [.int .i64 0, .int .i64 0])]) (fun u => u = decide (a.2 < a.1 ∨ b.2 < b.1)) ?_ (fun _ _ h => h) ?_
 ·refine z7 rfl<|z2 (zj isAgg74 sizeOf74 rfl rfl)<|zd (iEmpty _) rfl<|z2 (zMb rfl)<|zr (s := 11) rfl (fun c3 => ?_) (fun c3 => ?_)
  ·refine z8 rfl rfl c3<|z8 rfl rfl c3<|z2 (zPt rfl c3 rfl)<|z2 (zAb rfl)<|z6 ?_
   exact ⟨_, zR4, zR1, zLe, by simp_all <;> omega⟩
  ·refine zb rfl rfl c3<|z2 (zj isAgg74 sizeOf74 rfl rfl)<|zb rfl rfl c3<|zd (iEmpty _) rfl<|z2 (zPf rfl c3 rfl)<|z2 (zAb rfl)<|z6 ?_
   exact ⟨_, zR4, zR1, zLe, by simp_all <;> omega⟩
 ·rintro u hu
  subst hu
  refine zn rfl (fun cn => ?_) (fun cn => ?_)
  ·refine za<|z7 rfl<|zd (iNone) rfl<|ze sizeOf74 rfl rfl rfl rfl rfl rfl .head rfl<|z6<|zf<|yf rfl ⟨_, .head⟩ isAgg74 sizeOf74 rfl ?_
   rw [applyP, if_pos cn]; try rfl
  ·refine za<|z7 rfl<|z2 (zMi rfl)<|zd (iSums _) rfl<|z2 (zAb rfl)<|z6<|y4 rfl (fun cs => ?_) (fun cs => ?_)
   ·have hs : op = 2 ∨ op = 3 ∨ op = 4 := by simpa using cs
    obtain ⟨k, hk, hop⟩ := sum_op hs
    rw [(apply_sum hk hop cn).1]
    refine za<|z7 rfl<|z2 (zMi rfl)<|z2 (zj isAgg74 sizeOf74 rfl rfl)<|z2 (zj isAgg74 sizeOf74 rfl rfl)<|zd (iCorners op k hk hop ha hb) rfl<|zq (cs := [.int .i64 0, .int .i64 0, .bool false]) zeroValue261 rfl rfl<|fun i7 => ze sizeOf261 rfl rfl rfl rfl rfl rfl .head rfl<|z6<|za<|z7 rfl<|z2 (zt underlying261 rfl sizeOf4 (by decide) rfl rfl)<|z2 (zx (c := .bool _) isAgg4 rfl ⟨_, .head⟩ rfl)<|z2 (yk rfl)<|z6<|y4 rfl (fun cw => ?_) (fun cw => ?_)
    ·refine za<|z7 rfl<|z2 (zt underlying261 rfl sizeOf74 (by decide) rfl rfl)<|z2 (yn (l := [_, _]) isAgg74 sizeOf74 rfl ⟨_, .head⟩ rfl rfl)<|ze sizeOf74 rfl rfl rfl rfl rfl rfl (.tail .head) rfl<|z6<|zf<|yf rfl ⟨_, (.tail .head)⟩ isAgg74 sizeOf74 rfl ?_
     rw [sumP, if_neg (by decide), if_neg (by simpa using cw)]; try rfl
    ·refine zg<|za<|z7 rfl<|zd (iAll) rfl<|ze sizeOf74 rfl rfl rfl rfl rfl rfl (.tail .head) rfl<|z6<|zf<|yf rfl ⟨_, (.tail .head)⟩ isAgg74 sizeOf74 rfl ?_
     rw [sumP, if_neg (by decide), if_pos (by simpa using cw)]; try rfl
   ·have hs : ¬ (op = 2 ∨ op = 3 ∨ op = 4) := by simpa using cs
    rw [applyP, if_neg cn, if_neg (by omega), if_neg (by omega), if_neg (by omega)]
    refine za<|z7 rfl<|z2 (zMi rfl)<|z2 (zy rfl rfl)<|z2 (zAb rfl)<|z6<|zn rfl (fun c5 => ?_) (fun c5 => ?_)
    ·refine za<|z7 rfl<|z2 (zj isAgg74 sizeOf74 rfl rfl)<|z2 (zj isAgg74 sizeOf74 rfl rfl)<|zd (iQuot ha) rfl<|ze sizeOf74 rfl rfl rfl rfl rfl rfl .head rfl<|z6<|zf<|yf rfl ⟨_, .head⟩ isAgg74 sizeOf74 rfl ?_
     rw [if_pos c5]; try rfl
    ·rw [if_neg c5]
     refine za<|z7 rfl<|z2 (zMi rfl)<|z2 (zy rfl rfl)<|z2 (zAb rfl)<|z6<|zn rfl (fun c6 => ?_) (fun c6 => ?_)
     ·refine za<|z7 rfl<|z2 (zj isAgg74 sizeOf74 rfl rfl)<|z2 (zj isAgg74 sizeOf74 rfl rfl)<|zd (iRests ha hb) rfl<|ze sizeOf74 rfl rfl rfl rfl rfl rfl .head rfl<|z6<|zf<|yf rfl ⟨_, .head⟩ isAgg74 sizeOf74 rfl ?_
      rw [if_pos c6]; try rfl
     ·refine zg<|za<|z7 rfl<|zd (iAll) rfl<|ze sizeOf74 rfl rfl rfl rfl rfl rfl .head rfl<|z6<|zf<|yf rfl ⟨_, .head⟩ isAgg74 sizeOf74 rfl ?_
      rw [if_neg c6]; try rfl
theorem iClip (op : Int) {a b : Rng} (ha : ok64 a) (hb : ok64 b) : AFun Tryz.prog E 216 [.int .i64 op, .agg (encZ a), .agg (encZ b)] (.agg (encZ (clipP op a b))) := by
 refine zp func216 rfl (by decide) rfl<|za<|z7 rfl<|y7 (cs := _) rfl rfl rfl<|y7 (cs := _) rfl rfl rfl<|zq (cs := [.int .i64 0, .int .i64 0]) zeroValue74 rfl rfl<|fun i6 => z6<|za<|za<|yi (γ := Bool) [0, 4, 5, 6] (fun u => [(17, .bool u)]) (fun u => [(i6, .cells 74 [.int .i64 0, .int .i64 0])]) (fun u => u = decide ((a.2 < a.1 ∨ b.2 < b.1) ∨ ¬ (op = 2 ∨ op = 3 ∨ op = 4))) ?_ (fun _ _ h => h) ?_
 ·refine z7 rfl<|z2 (zj isAgg74 sizeOf74 rfl rfl)<|zd (iEmpty _) rfl<|z2 (zMb rfl)<|zr (s := 9) rfl (fun c4 => ?_) (fun c4 => ?_)
  ·refine z8 rfl rfl c4<|z8 rfl rfl c4<|z2 (zPt rfl c4 rfl)<|z2 (zMb rfl)<|z8 rfl rfl rfl<|z8 rfl rfl rfl<|z8 rfl rfl rfl<|z2 (zPt rfl rfl rfl)<|z6 ?_
   exact ⟨_, zR4, zR1, zLe, by simp_all <;> omega⟩
  ·refine zb rfl rfl c4<|z2 (zj isAgg74 sizeOf74 rfl rfl)<|zb rfl rfl c4<|zd (iEmpty _) rfl<|z2 (zPf rfl c4 rfl)<|z2 (zMb rfl)<|zr (s := 13) rfl (fun c5 => ?_) (fun c5 => ?_)
   ·refine z8 rfl rfl c5<|z8 rfl rfl c5<|z8 rfl rfl c5<|z2 (zPt rfl c5 rfl)<|z6 ?_
    exact ⟨_, zR4, zR1, zLe, by simp_all <;> omega⟩
   ·refine zb rfl rfl c5<|z2 (zMi rfl)<|zb rfl rfl c5<|zd (iSums _) rfl<|zb rfl rfl c5<|z2 (yk rfl)<|z2 (zPf rfl c5 rfl)<|z6 ?_
    exact ⟨_, zR4, zR1, zLe, by simp_all <;> omega⟩
 ·rintro u hu
  subst hu
  refine zn rfl (fun cn => ?_) (fun cn => ?_)
  ·refine za<|z7 rfl<|z2 (zMi rfl)<|z2 (zj isAgg74 sizeOf74 rfl rfl)<|z2 (zj isAgg74 sizeOf74 rfl rfl)<|zd (iApply op ha hb) rfl<|ze sizeOf74 rfl rfl rfl rfl rfl rfl .head rfl<|z6<|zf<|yf rfl ⟨_, .head⟩ isAgg74 sizeOf74 rfl ?_
   rw [apply_clip cn]; try rfl
  ·obtain ⟨k, hk, hop⟩ := sum_op (Classical.byContradiction fun h => cn (.inr h))
   have hn : ¬ (a.2 < a.1 ∨ b.2 < b.1) := fun h => cn (.inl h)
   rw [(apply_sum hk hop hn).2]
   refine zg<|za<|z7 rfl<|z2 (zMi rfl)<|z2 (zj isAgg74 sizeOf74 rfl rfl)<|z2 (zj isAgg74 sizeOf74 rfl rfl)<|zd (iCorners op k hk hop ha hb) rfl<|z2 (Gv.fieldA (l := [_, _]) underlying261 rfl isAgg74 sizeOf74 rfl rfl)<|ze sizeOf74 rfl rfl rfl rfl rfl rfl .head rfl<|z6<|zf<|yf rfl ⟨_, .head⟩ isAgg74 sizeOf74 rfl ?_
   rw [sumP, if_pos rfl]; try rfl
end Go.Proofs.YtjnpcfpecilejaaGreatDoor
namespace Go.Proofs.YtjnpcfpecilejaaGreatDoor
open Go.Proofs.Tryz
open Go.Proofs
variable {E : World}
set_option maxRecDepth 20000
theorem iWiden (t : Int) (a b : Rng) : AFun Tryz.prog E 203 [.int .i64 t, .agg (encZ a), .agg (encZ b)] (.agg (encZ (widQ (rType t) a b))) := by
 obtain ⟨tt, htt⟩ : ∃ tt, rType t = tt := ⟨_, rfl⟩
 obtain ⟨j, hj⟩ : ∃ j, rJoin a b = j := ⟨_, rfl⟩
 have hw : widQ (rType t) a b = if a.2 < a.1 then j else (if j.1 < a.1 ∧ tt.1 ≤ tt.2 then imin j.1 tt.1 else j.1, if a.2 < j.2 ∧ tt.1 ≤ tt.2 then imax j.2 tt.2 else j.2) := by subst htt hj; rfl
 rw [hw]
 have hJ := iJoin (E := E) a b
 rw [hj] at hJ
 have hT := iType (E := E) t
 rw [htt] at hT
 refine zp func203 rfl (by decide) rfl<|za<|z7 rfl<|y7 (cs := _) rfl rfl rfl<|y7 (cs := _) rfl rfl rfl<|zq (cs := [.int .i64 0, .int .i64 0]) zeroValue74 rfl rfl<|fun i6 => z6<|za<|z7 rfl<|z2 (zj isAgg74 sizeOf74 rfl rfl)<|z2 (zj isAgg74 sizeOf74 rfl rfl)<|zd (hJ) rfl<|z2 (zMi rfl)<|zd (hT) rfl<|zq (cs := [.int .i64 0, .int .i64 0]) zeroValue74 rfl rfl<|fun i7 => zq (cs := [.int .i64 0, .int .i64 0]) zeroValue74 rfl rfl<|fun i8 => ze sizeOf74 rfl rfl rfl rfl rfl rfl (.tail .head) rfl<|ze sizeOf74 rfl rfl rfl rfl rfl rfl .head rfl<|z6<|yl (yh (t := 8) rfl .head)<|za<|za<|z7 rfl<|z2 (zj isAgg74 sizeOf74 rfl rfl)<|zd (iEmpty _) rfl<|z6<|zn rfl (fun ce => ?_) (fun ce => ?_)
 ·refine za<|z7 rfl<|z2 (yw isAgg74 sizeOf74 rfl ⟨_, .head⟩ rfl)<|ze sizeOf74 rfl rfl rfl rfl rfl rfl (.tail .head) rfl<|z6<|zf<|yf rfl ⟨_, (.tail .head)⟩ isAgg74 sizeOf74 rfl ?_
  rw [if_pos ce]; try rfl
 ·rw [if_neg ce]
  refine zg<|za<|za<|yi (γ := Bool) [4, 6, 7, 8] (fun u => [(26, .bool u)]) (fun u => [(i7, .cells 74 (encZ j)), (i6, .cells 74 [.int .i64 0, .int .i64 0])]) (fun u => u = decide (j.1 < a.1 ∧ tt.1 ≤ tt.2)) ?_ (fun _ _ h => h) ?_
  ·refine z7 rfl<|z2 (zt underlying74 rfl sizeOf2 (by decide) rfl rfl)<|z2 (zx (c := .int _ _) isAgg2 rfl ⟨_, .head⟩ rfl)<|z2 (zc underlying74 rfl sizeOf2 (by decide) rfl rfl)<|z2 (zLi isAgg2 rfl)<|z2 (yc rfl rfl)<|z2 (zMb rfl)<|zr (s := 22) rfl (fun c1 => ?_) (fun c1 => ?_)
   ·refine zb rfl rfl c1<|z2 (zj isAgg74 sizeOf74 rfl rfl)<|zb rfl rfl c1<|zd (iEmpty _) rfl<|zb rfl rfl c1<|z2 (yk rfl)<|z2 (zPt rfl c1 rfl)<|z6 ?_
    exact ⟨_, zR4, zR1, zLe, by have : j.1 < a.1 := (by simpa using c1); simp [this]; rw [qt]; simp⟩
   ·refine z8 rfl rfl c1<|z8 rfl rfl c1<|z8 rfl rfl c1<|z2 (zPf rfl c1 rfl)<|z6 ?_
    exact ⟨_, zR4, zR1, zLe, by have : ¬ j.1 < a.1 := (by simpa using c1); simp [this]⟩
  ·rintro u hu
   subst hu
   refine yi (γ := Int) [4, 6, 7, 8] (fun x => []) (fun x => [(i7, .cells 74 [.int .i64 x, .int .i64 j.2]), (i6, .cells 74 [.int .i64 0, .int .i64 0])]) (fun x => x = if j.1 < a.1 ∧ tt.1 ≤ tt.2 then imin j.1 tt.1 else j.1) ?_ (fun _ _ h => h) ?_
   ·refine zn rfl (fun c1 => ?_) (fun c1 => ?_)
    ·refine z7 rfl<|z2 (zt underlying74 rfl sizeOf2 (by decide) rfl rfl)<|z2 (zx (c := .int _ _) isAgg2 rfl ⟨_, .head⟩ rfl)<|z2 (zc underlying74 rfl sizeOf2 (by decide) rfl rfl)<|z2 (zLi isAgg2 rfl)<|z2 (Gv.minI rfl rfl)<|z2 (zt underlying74 rfl sizeOf2 (by decide) rfl rfl)<|q0 (l := [_]) (new := [_, _]) sizeOf2 rfl rfl rfl rfl rfl rfl .head rfl rfl<|z6 ?_
     exact ⟨imin j.1 tt.1, zR4, trivial, zLe, by rw [if_pos c1]⟩
    ·refine zg ?_
     exact ⟨j.1, zR4, trivial, zLe, by rw [if_neg c1]⟩
   ·rintro x hx
    refine za<|za<|yi (γ := Bool) [6, 7, 8] (fun u => [(42, .bool u)]) (fun u => [(i7, .cells 74 [.int .i64 x, .int .i64 j.2]), (i6, .cells 74 [.int .i64 0, .int .i64 0])]) (fun u => u = decide (a.2 < j.2 ∧ tt.1 ≤ tt.2)) ?_ (fun _ _ h => h) ?_
    ·refine z7 rfl<|z2 (zt underlying74 rfl sizeOf2 (by decide) rfl rfl)<|z2 (zx (c := .int _ _) isAgg2 rfl ⟨_, .head⟩ rfl)<|z2 (zc underlying74 rfl sizeOf2 (by decide) rfl rfl)<|z2 (zLi isAgg2 rfl)<|z2 (yx rfl rfl)<|z2 (zMb rfl)<|zr (s := 38) rfl (fun c1 => ?_) (fun c1 => ?_)
     ·refine zb rfl rfl c1<|z2 (zj isAgg74 sizeOf74 rfl rfl)<|zb rfl rfl c1<|zd (iEmpty _) rfl<|zb rfl rfl c1<|z2 (yk rfl)<|z2 (zPt rfl c1 rfl)<|z6 ?_
      exact ⟨_, zR3, zR1, zLe, by have : a.2 < j.2 := (by simpa using c1); simp [this]; rw [qt]; simp⟩
     ·refine z8 rfl rfl c1<|z8 rfl rfl c1<|z8 rfl rfl c1<|z2 (zPf rfl c1 rfl)<|z6 ?_
      exact ⟨_, zR3, zR1, zLe, by have : ¬ a.2 < j.2 := (by simpa using c1); simp [this]⟩
    ·rintro u hu
     subst hu
     rw [← hx]
     refine zn rfl (fun c1 => ?_) (fun c1 => ?_)
     ·refine z7 rfl<|z2 (zt underlying74 rfl sizeOf2 (by decide) rfl rfl)<|z2 (zx (c := .int _ _) isAgg2 rfl ⟨_, .head⟩ rfl)<|z2 (zc underlying74 rfl sizeOf2 (by decide) rfl rfl)<|z2 (zLi isAgg2 rfl)<|z2 (Gv.maxI rfl rfl)<|z2 (zt underlying74 rfl sizeOf2 (by decide) rfl rfl)<|q0 (l := [_]) (new := [_, _]) sizeOf2 rfl rfl rfl rfl rfl rfl .head rfl rfl<|z6<|za<|z7 rfl<|z2 (yw isAgg74 sizeOf74 rfl ⟨_, .head⟩ rfl)<|ze sizeOf74 rfl rfl rfl rfl rfl rfl (.tail .head) rfl<|z6<|zf<|yf rfl ⟨_, (.tail .head)⟩ isAgg74 sizeOf74 rfl ?_
      rw [if_pos c1]; try rfl
     ·refine zg<|za<|z7 rfl<|z2 (yw isAgg74 sizeOf74 rfl ⟨_, .head⟩ rfl)<|ze sizeOf74 rfl rfl rfl rfl rfl rfl (.tail .head) rfl<|z6<|zf<|yf rfl ⟨_, (.tail .head)⟩ isAgg74 sizeOf74 rfl ?_
      rw [if_neg c1]; try rfl
def alwB (op : Int) (a b : Rng) : Bool := if op = 7 then decide (a.1 = a.2) && decide (a = b) else if op = 8 then decide (a.2 < b.1) else if op = 9 then decide (a.2 ≤ b.1) else false
def nevB (op : Int) (a b : Rng) : Bool := if op = 7 then decide ((rMeet a b).2 < (rMeet a b).1) else if op = 8 then decide (b.2 ≤ a.1) else if op = 9 then decide (b.2 < a.1) else false
theorem truthP_b (op : Int) (a b : Rng) : truthP op a b = if a.2 < a.1 ∨ b.2 < b.1 then noR else truP (alwB op a b) (nevB op a b) := by
 unfold truthP alwB nevB
 by_cases h : a.2 < a.1 ∨ b.2 < b.1
 ·rw [if_pos h, if_pos h]
 ·rw [if_neg h, if_neg h]
  by_cases h7 : op = 7
  ·rw [if_pos h7, if_pos h7, if_pos h7]
  ·rw [if_neg h7, if_neg h7, if_neg h7]
   by_cases h8 : op = 8
   ·rw [if_pos h8, if_pos h8, if_pos h8]
   ·rw [if_neg h8, if_neg h8, if_neg h8]
    by_cases h9 : op = 9
    ·rw [if_pos h9, if_pos h9, if_pos h9]
    ·rw [if_neg h9, if_neg h9, if_neg h9]; rfl
theorem rng_eq (a b : Rng) : decide (a.1 = b.1 ∧ a.2 = b.2) = decide (a = b) := decide_eq_decide.2 ⟨fun h => Prod.ext h.1 h.2, fun h => by rw [h]; exact ⟨rfl, rfl⟩⟩
theorem iTruth (op : Int) (a b : Rng) : AFun Tryz.prog E 179 [.int .i64 op, .agg (encZ a), .agg (encZ b)] (.agg (encZ (truthP op a b))) := by
 rw [truthP_b]
 refine zp func179 rfl (by decide) rfl<|za<|z7 rfl<|y7 (cs := _) rfl rfl rfl<|y7 (cs := _) rfl rfl rfl<|zq (cs := [.int .i64 0, .int .i64 0]) zeroValue74 rfl rfl<|fun i6 => z6<|za<|z7 rfl<|z2 (zAb rfl)<|z2 (zAb rfl)<|z6<|za<|za<|z7 rfl<|z2 (zMi rfl)<|z6<|yi (γ := Bool × Bool) [4, 5, 6] (fun g => [(8, .bool g.1), (7, .bool g.2)]) (fun g => [(i6, .cells 74 [.int .i64 0, .int .i64 0])]) (fun g => g.1 = alwB op a b ∧ g.2 = nevB op a b) ?_ (fun _ _ h => h) ?_
 ·refine zm<|za<|z7 rfl<|z2 (zy rfl rfl)<|z2 (zAb rfl)<|z6<|zn rfl (fun c7 => ?_) (fun c7 => ?_)
  ·refine za<|z7 rfl<|z2 (zc underlying74 rfl sizeOf2 (by decide) rfl rfl)<|z2 (zLi isAgg2 rfl)<|z2 (zc underlying74 rfl sizeOf2 (by decide) rfl rfl)<|z2 (zLi isAgg2 rfl)<|z2 (zy rfl rfl)<|z2 (zMb rfl)<|zr (s := 17) rfl (fun c => ?_) (fun c => ?_)
   ·refine zb rfl rfl c<|z2 (zj isAgg74 sizeOf74 rfl rfl)<|zb rfl rfl c<|z2 (zj isAgg74 sizeOf74 rfl rfl)<|zb rfl rfl c<|z2 (Gv.eqlP (xs := [.int _ _, .int _ _]) (ys := [.int _ _, .int _ _]) (by kernel_rfl) rfl rfl (fun w => eq_range _ _ _ _ w))<|z2 (zPt rfl c rfl)<|z2 (zAb rfl)<|z6<|z7 rfl<|z2 (zj isAgg74 sizeOf74 rfl rfl)<|z2 (zj isAgg74 sizeOf74 rfl rfl)<|zd (iMeet _ _) rfl<|zd (iEmpty _) rfl<|z2 (zAb rfl)<|z6 ?_
    exact ⟨(decide (a.1 = b.1 ∧ a.2 = b.2), decide ((rMeet a b).2 < (rMeet a b).1)), zR3, zR2, zLe, by dsimp only; exact ⟨by rw [alwB, if_pos c7, rng_eq, show decide (a.1 = a.2) = true from c]; rfl, by rw [nevB, if_pos c7]⟩⟩
   ·refine z8 rfl rfl c<|z8 rfl rfl c<|z8 rfl rfl c<|z2 (zPf rfl c rfl)<|z2 (zAb rfl)<|z6<|z7 rfl<|z2 (zj isAgg74 sizeOf74 rfl rfl)<|z2 (zj isAgg74 sizeOf74 rfl rfl)<|zd (iMeet _ _) rfl<|zd (iEmpty _) rfl<|z2 (zAb rfl)<|z6 ?_
    exact ⟨(false, decide ((rMeet a b).2 < (rMeet a b).1)), zR3, zR2, zLe, by dsimp only; exact ⟨by rw [alwB, if_pos c7, show decide (a.1 = a.2) = false from c]; rfl, by rw [nevB, if_pos c7]⟩⟩
  ·refine za<|z7 rfl<|z2 (zy rfl rfl)<|z2 (zAb rfl)<|z6<|zn rfl (fun c8 => ?_) (fun c8 => ?_)
   ·refine zw (fun j => false) (by kernel_rfl) rfl (zu (.rest _))<|zTk (i := 0) rfl (zc underlying74 rfl sizeOf2 (by decide) rfl rfl)<|zTk (i := 1) rfl (zLi isAgg2 rfl)<|zTk (i := 2) rfl (zc underlying74 rfl sizeOf2 (by decide) rfl rfl)<|zTk (i := 3) rfl (zLi isAgg2 rfl)<|zTk (i := 4) rfl (yc rfl rfl)<|zTk (i := 5) rfl (zc underlying74 rfl sizeOf2 (by decide) rfl rfl)<|zTk (i := 6) rfl (zLi isAgg2 rfl)<|zTk (i := 7) rfl (zc underlying74 rfl sizeOf2 (by decide) rfl rfl)<|zTk (i := 8) rfl (zLi isAgg2 rfl)<|zTk (i := 9) rfl (q8 rfl rfl)<|zTk (i := 10) rfl (zAb rfl)<|zTk (i := 11) rfl (zAb rfl)<|zDn ?_
    exact ⟨(decide (a.2 < b.1), decide (b.2 ≤ a.1)), zR3, zR2, zLe, by dsimp only; exact ⟨by rw [alwB, if_neg c7, if_pos c8], by rw [nevB, if_neg c7, if_pos c8]⟩⟩
   ·refine za<|z7 rfl<|z2 (zy rfl rfl)<|z2 (zAb rfl)<|z6<|zn rfl (fun c9 => ?_) (fun c9 => ?_)
    ·refine zw (fun j => false) (by kernel_rfl) rfl (zu (.rest _))<|zTk (i := 0) rfl (zc underlying74 rfl sizeOf2 (by decide) rfl rfl)<|zTk (i := 1) rfl (zLi isAgg2 rfl)<|zTk (i := 2) rfl (zc underlying74 rfl sizeOf2 (by decide) rfl rfl)<|zTk (i := 3) rfl (zLi isAgg2 rfl)<|zTk (i := 4) rfl (Gv.leq rfl rfl)<|zTk (i := 5) rfl (zc underlying74 rfl sizeOf2 (by decide) rfl rfl)<|zTk (i := 6) rfl (zLi isAgg2 rfl)<|zTk (i := 7) rfl (zc underlying74 rfl sizeOf2 (by decide) rfl rfl)<|zTk (i := 8) rfl (zLi isAgg2 rfl)<|zTk (i := 9) rfl (yx rfl rfl)<|zTk (i := 10) rfl (zAb rfl)<|zTk (i := 11) rfl (zAb rfl)<|zDn ?_
     exact ⟨(decide (a.2 ≤ b.1), decide (b.2 < a.1)), zR3, zR2, zLe, by dsimp only; exact ⟨by rw [alwB, if_neg c7, if_neg c8, if_pos c9], by rw [nevB, if_neg c7, if_neg c8, if_pos c9]⟩⟩
    ·refine zg ?_
     exact ⟨(false, false), zR3, zR2, zLe, by dsimp only; exact ⟨by rw [alwB, if_neg c7, if_neg c8, if_neg c9], by rw [nevB, if_neg c7, if_neg c8, if_neg c9]⟩⟩
 ·rintro ⟨al, ne⟩ ⟨h1, h2⟩
  dsimp only at h1 h2
  rw [← h1, ← h2]
  refine za<|zm<|za<|yi (γ := Bool) [6, 7, 8] (fun u => [(50, .bool u)]) (fun u => [(i6, .cells 74 [.int .i64 0, .int .i64 0])]) (fun u => u = decide (a.2 < a.1 ∨ b.2 < b.1)) ?_ (fun _ _ h => h) ?_
  ·refine z7 rfl<|z2 (zj isAgg74 sizeOf74 rfl rfl)<|zd (iEmpty _) rfl<|z2 (zMb rfl)<|zr (s := 53) rfl (fun c1 => ?_) (fun c1 => ?_)
   ·refine z8 rfl rfl c1<|z8 rfl rfl c1<|z2 (zPt rfl c1 rfl)<|z2 (zAb rfl)<|z6 ?_
    exact ⟨_, zR3, zR1, zLe, by simp_all <;> omega⟩
   ·refine zb rfl rfl c1<|z2 (zj isAgg74 sizeOf74 rfl rfl)<|zb rfl rfl c1<|zd (iEmpty _) rfl<|z2 (zPf rfl c1 rfl)<|z2 (zAb rfl)<|z6 ?_
    exact ⟨_, zR3, zR1, zLe, by simp_all <;> omega⟩
  ·rintro u hu
   subst hu
   refine zn rfl (fun cn => ?_) (fun cn => ?_)
   ·refine za<|z7 rfl<|zd (iNone) rfl<|ze sizeOf74 rfl rfl rfl rfl rfl rfl .head rfl<|z6<|zf<|yf rfl ⟨_, .head⟩ isAgg74 sizeOf74 rfl ?_
    rw [if_pos cn]; try rfl
   ·rw [if_neg cn]
    refine za<|z7 rfl<|z2 (zMb rfl)<|z2 (zAb rfl)<|z6<|y4 rfl (fun c1 => ?_) (fun c1 => ?_)
    ·refine za<|z7 rfl<|zd (iOf _) rfl<|ze sizeOf74 rfl rfl rfl rfl rfl rfl .head rfl<|z6<|zf<|yf rfl ⟨_, .head⟩ isAgg74 sizeOf74 rfl ?_
     rw [show al = true from c1]; try rfl
    ·refine za<|z7 rfl<|z2 (zMb rfl)<|z2 (zAb rfl)<|z6<|y4 rfl (fun c2 => ?_) (fun c2 => ?_)
     ·refine za<|z7 rfl<|zd (iOf _) rfl<|ze sizeOf74 rfl rfl rfl rfl rfl rfl .head rfl<|z6<|zf<|yf rfl ⟨_, .head⟩ isAgg74 sizeOf74 rfl ?_
      rw [show al = false from c1, show ne = true from c2]; try rfl
     ·refine zg<|za<|z7 rfl<|z2 (y3 (cps := [(0, [_]), (1, [_])]) (rs := [_, _]) pl74 rfl rfl rfl)<|ze sizeOf74 rfl rfl rfl rfl rfl rfl .head rfl<|z6<|zf<|yf rfl ⟨_, .head⟩ isAgg74 sizeOf74 rfl ?_
      rw [show al = false from c1, show ne = false from c2]; try rfl
theorem iCut (num : Int) {a b : Rng} (hb : ok64 b) : AFun Tryz.prog E 180 [.int .i64 num, .agg (encZ a), .agg (encZ b)] (.agg (encZ (cutP num a b))) := by
 have hb1 := hb.1; have hb2 := hb.2
 unfold is64 at hb1 hb2
 have hm : m64 = -9223372036854775808 := rfl
 have hM : M64 = 9223372036854775807 := rfl
 refine zp func180 rfl (by decide) rfl<|za<|z7 rfl<|y7 (cs := _) rfl rfl rfl<|y7 (cs := _) rfl rfl rfl<|zq (cs := [.int .i64 0, .int .i64 0]) zeroValue74 rfl rfl<|fun i6 => z6<|za<|za<|yi (γ := Bool) [0, 4, 5, 6] (fun u => [(12, .bool u)]) (fun u => [(i6, .cells 74 [.int .i64 0, .int .i64 0])]) (fun u => u = decide (a.2 < a.1 ∨ b.2 < b.1)) ?_ (fun _ _ h => h) ?_
 ·refine z7 rfl<|z2 (zj isAgg74 sizeOf74 rfl rfl)<|zd (iEmpty _) rfl<|z2 (zMb rfl)<|zr (s := 9) rfl (fun c2 => ?_) (fun c2 => ?_)
  ·refine z8 rfl rfl c2<|z8 rfl rfl c2<|z2 (zPt rfl c2 rfl)<|z6 ?_
   exact ⟨_, zR4, zR1, zLe, by simp_all <;> omega⟩
  ·refine zb rfl rfl c2<|z2 (zj isAgg74 sizeOf74 rfl rfl)<|zb rfl rfl c2<|zd (iEmpty _) rfl<|z2 (zPf rfl c2 rfl)<|z6 ?_
   exact ⟨_, zR4, zR1, zLe, by simp_all <;> omega⟩
 ·rintro u hu
  subst hu
  refine zn rfl (fun cn => ?_) (fun cn => ?_)
  ·refine za<|z7 rfl<|zd (iNone) rfl<|ze sizeOf74 rfl rfl rfl rfl rfl rfl .head rfl<|z6<|zf<|yf rfl ⟨_, .head⟩ isAgg74 sizeOf74 rfl ?_
   rw [cutP, if_pos cn]; try rfl
  ·rw [cutP, if_neg cn]
   refine zg<|za<|za<|z7 rfl<|z2 (zMi rfl)<|z6<|zm<|za<|z7 rfl<|z2 (zy rfl rfl)<|z2 (zAb rfl)<|z6<|zn rfl (fun c0 => ?_) (fun c0 => ?_)
   ·refine za<|za<|z7 rfl<|z2 (zc underlying74 rfl sizeOf2 (by decide) rfl rfl)<|z2 (zLi isAgg2 rfl)<|z2 (zy rfl rfl)<|z6<|zn rfl (fun cm => ?_) (fun cm => ?_)
    ·refine za<|z7 rfl<|zd (iNone) rfl<|ze sizeOf74 rfl rfl rfl rfl rfl rfl .head rfl<|z6<|zf<|yf rfl ⟨_, .head⟩ isAgg74 sizeOf74 rfl ?_
     rw [if_pos c0, if_pos (show b.2 = m64 from cm)]; try rfl
    ·refine zg<|za<|z7 rfl<|z2 (zc underlying74 rfl sizeOf2 (by decide) rfl rfl)<|z2 (zLi isAgg2 rfl)<|z2 (zc underlying74 rfl sizeOf2 (by decide) rfl rfl)<|z2 (zLi isAgg2 rfl)<|z2 (zc underlying74 rfl sizeOf2 (by decide) rfl rfl)<|z2 (zLi isAgg2 rfl)<|z2 (Gv.sub rfl rfl (by unfold I64; omega))<|z2 (Gv.minI rfl rfl)<|zd (iMade _ _) rfl<|ze sizeOf74 rfl rfl rfl rfl rfl rfl .head rfl<|z6<|zf<|yf rfl ⟨_, .head⟩ isAgg74 sizeOf74 rfl ?_
     rw [if_pos c0, if_neg (show ¬ b.2 = m64 from cm)]; try rfl
   ·rw [if_neg c0]
    refine za<|z7 rfl<|z2 (zy rfl rfl)<|z2 (zAb rfl)<|z6<|zn rfl (fun c1 => ?_) (fun c1 => ?_)
    ·refine za<|z7 rfl<|z2 (zc underlying74 rfl sizeOf2 (by decide) rfl rfl)<|z2 (zLi isAgg2 rfl)<|z2 (zc underlying74 rfl sizeOf2 (by decide) rfl rfl)<|z2 (zLi isAgg2 rfl)<|z2 (zc underlying74 rfl sizeOf2 (by decide) rfl rfl)<|z2 (zLi isAgg2 rfl)<|z2 (Gv.minI rfl rfl)<|zd (iMade _ _) rfl<|ze sizeOf74 rfl rfl rfl rfl rfl rfl .head rfl<|z6<|zf<|yf rfl ⟨_, .head⟩ isAgg74 sizeOf74 rfl ?_
     rw [if_pos c1]; try rfl
    ·rw [if_neg c1]
     refine za<|z7 rfl<|z2 (zy rfl rfl)<|z2 (zAb rfl)<|z6<|zn rfl (fun c2 => ?_) (fun c2 => ?_)
     ·refine za<|z7 rfl<|z2 (zj isAgg74 sizeOf74 rfl rfl)<|z2 (zj isAgg74 sizeOf74 rfl rfl)<|zd (iMeet _ _) rfl<|ze sizeOf74 rfl rfl rfl rfl rfl rfl .head rfl<|z6<|zf<|yf rfl ⟨_, .head⟩ isAgg74 sizeOf74 rfl ?_
      rw [if_pos c2]; try rfl
     ·rw [if_neg c2]
      refine za<|z7 rfl<|z2 (zy rfl rfl)<|z2 (zAb rfl)<|z6<|zn rfl (fun c3 => ?_) (fun c3 => ?_)
      ·refine za<|z7 rfl<|z2 (zc underlying74 rfl sizeOf2 (by decide) rfl rfl)<|z2 (zLi isAgg2 rfl)<|z2 (zc underlying74 rfl sizeOf2 (by decide) rfl rfl)<|z2 (zLi isAgg2 rfl)<|z2 (Gv.maxI rfl rfl)<|z2 (zc underlying74 rfl sizeOf2 (by decide) rfl rfl)<|z2 (zLi isAgg2 rfl)<|zd (iMade _ _) rfl<|ze sizeOf74 rfl rfl rfl rfl rfl rfl .head rfl<|z6<|zf<|yf rfl ⟨_, .head⟩ isAgg74 sizeOf74 rfl ?_
       rw [if_pos c3]; try rfl
      ·rw [if_neg c3]
       refine za<|z7 rfl<|z2 (zy rfl rfl)<|z2 (zAb rfl)<|z6<|zn rfl (fun c4 => ?_) (fun c4 => ?_)
       ·refine za<|za<|z7 rfl<|z2 (zc underlying74 rfl sizeOf2 (by decide) rfl rfl)<|z2 (zLi isAgg2 rfl)<|z2 (zy rfl rfl)<|z6<|zn rfl (fun cm => ?_) (fun cm => ?_)
        ·refine za<|z7 rfl<|zd (iNone) rfl<|ze sizeOf74 rfl rfl rfl rfl rfl rfl .head rfl<|z6<|zf<|yf rfl ⟨_, .head⟩ isAgg74 sizeOf74 rfl ?_
         rw [if_pos c4, if_pos (show b.1 = M64 from cm)]; try rfl
        ·refine zg<|za<|z7 rfl<|z2 (zc underlying74 rfl sizeOf2 (by decide) rfl rfl)<|z2 (zLi isAgg2 rfl)<|z2 (zc underlying74 rfl sizeOf2 (by decide) rfl rfl)<|z2 (zLi isAgg2 rfl)<|z2 (yd rfl rfl (by unfold I64; omega))<|z2 (Gv.maxI rfl rfl)<|z2 (zc underlying74 rfl sizeOf2 (by decide) rfl rfl)<|z2 (zLi isAgg2 rfl)<|zd (iMade _ _) rfl<|ze sizeOf74 rfl rfl rfl rfl rfl rfl .head rfl<|z6<|zf<|yf rfl ⟨_, .head⟩ isAgg74 sizeOf74 rfl ?_
         rw [if_pos c4, if_neg (show ¬ b.1 = M64 from cm)]; try rfl
       ·refine zg<|za<|z7 rfl<|z2 (zj isAgg74 sizeOf74 rfl rfl)<|ze sizeOf74 rfl rfl rfl rfl rfl rfl .head rfl<|z6<|zf<|yf rfl ⟨_, .head⟩ isAgg74 sizeOf74 rfl ?_
        rw [if_neg c4]; try rfl
end Go.Proofs.YtjnpcfpecilejaaGreatDoor
