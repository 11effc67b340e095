/- Ranges that are widened, held against one another, cut; whether all results fit. Of int64s. -/
import Derived.Test.YtjnpcfpecilejaaGreatDoorKd
import Derived.Test.YtjnpcfpecilejaaGreatDoorKg
import Derived.Test.YtjnpcfpecilejaaGreatDoorKp
set_option linter.unusedVariables false
set_option linter.unusedSimpArgs false
set_option linter.unusedSectionVars false
namespace Go.Proofs.YtjnpcfpecilejaaGreatDoor
open Go.Proofs.Tryz
open Go.Proofs
theorem pl261 : Places prog 261 #[(0, 2), (2, 1)] [.int .i64 0, .int .i64 0, .bool false] := ⟨_, _, underlying261, zeroValue261, fun w => by kernel_rfl, rfl⟩
theorem pl280 : PlacesA prog 280 1 [.int .i64 0, .int .i64 0] := ⟨_, _, _, underlying280, zeroValue280, sizeOf2, rfl⟩
theorem pl283 : PlacesA prog 283 2 [.int .i64 0, .int .i64 0, .int .i64 0, .int .i64 0] := ⟨_, _, _, underlying283, zeroValue283, sizeOf74, rfl⟩
variable {E : World}
set_option maxRecDepth 20000
theorem aMul {x y : Int} (hx : is64 x) (hy : is64 y) : AFun prog E 237 [.int .i64 x, .int .i64 y] (.tup [.int .i64 (IntKind.i64.wrap (x * y)), .bool (decide (fit3 2 x y))]) := by
 rw [← mulB]
 refine zn func237 rfl (by decide) rfl<|zSr<|z2 (zAi rfl)<|z2 (zAb rfl)<|z6<|zSr<|z2 (zMi rfl)<|zb (aAbs hx) rfl<|z2 (zMi rfl)<|zb (aAbs hy) rfl<|zb (mul64_spec _ _ (abs_lt hx) (abs_lt hy)) rfl<|z2 (zMu rfl)<|z2 (zXi rfl rfl)<|z2 (zXi rfl rfl)<|z2 (zAi rfl)<|z2 (zAi rfl)<|z6<|zSr<|z2 (zAi rfl)<|z6<|za<|zSr<|z2 (zMi rfl)<|z2 (y7 rfl rfl)<|z2 (zMi rfl)<|z2 (y7 rfl rfl)<|z2 (Gv.neqB underlying4 rfl rfl)<|z6<|yb (γ := Int) [0, 1, 6, 7] (fun m => [(8, .int .u64 m)]) (fun m => []) (fun m => m = if (!(decide (x < 0) == decide (y < 0))) = true then 9223372036854775808 else 9223372036854775807) ?_ (fun _ _ h => h) ?_
 ·refine zy rfl (fun c1=>?_) (fun c1=>?_)
  ·refine zRg<|z2 (zMi rfl)<|z2 (Gv.addW rfl rfl)<|z2 (zAi rfl)<|z6 ?_
   exact ⟨_, zR4, zR1, zLe, by simp_all <;> first | rfl | decide⟩
  ·refine zf ?_
   exact ⟨_, zR4, zR1, zLe, by simp_all <;> first | rfl | decide⟩
 ·rintro m hm
  subst hm
  refine zSr<|z2 (zMi rfl)<|z2 (zMi rfl)<|z2 (Gv.mulW rfl rfl)<|z2 (zMi rfl)<|z2 (zw rfl rfl)<|z2 (zMb rfl)<|zr (s := 29) rfl (fun c2=>?_) (fun c2=>?_)
  ·refine z8 rfl rfl c2<|z2 (zMi rfl)<|z8 rfl rfl c2<|z2 (zMi rfl)<|z8 rfl rfl c2<|z2 (Gv.leq rfl rfl)<|z2 (zPt rfl c2 rfl)<|z2 (zAi rfl)<|z2 (zAb rfl)<|z6<|zd<|qa (x := .int _ _) (y := .bool _) rfl rfl ?_
   simp_all
  ·refine z7 rfl rfl c2<|z7 rfl rfl c2<|z7 rfl rfl c2<|z2 (zPf rfl c2 rfl)<|z2 (zAi rfl)<|z2 (zAb rfl)<|z6<|zd<|qa (x := .int _ _) (y := .bool _) rfl rfl ?_
   simp_all
theorem hull_add (i : Nat) (h : Rng × Bool) (n : Int) (fits : Bool) (e : Int) : ACall prog E 234 [.po i 0, .int .i64 n, .bool fits, .int .i64 e] [(i, .cells 261 (encH h))] fun r O => r = .tup [] ∧ O = [(i, .cells 261 (encH (hAdd h n fits e)))] := by
 refine zn func234 rfl (by decide) rfl<|za<|zSr<|z2 (zMb rfl)<|z2 (yg rfl)<|z6<|yb (γ := Int × Bool) [0] (fun g => [(1, .int .i64 g.1)]) (fun g => [(i, .cells 261 (encH (h.1, g.2)))]) (fun g => g.1 = (if fits then n else e) ∧ g.2 = (h.2 || !fits)) ?_ (fun _ _ h => h) ?_
 ·refine zy rfl (fun c=>?_) (fun c=>?_)
  ·refine zRg<|z2 (zMp rfl)<|z2 (zMi rfl)<|z2 (ym rfl)<|z2 (zq underlying261 rfl sizeOf4 (by decide) rfl rfl)<|yu (l := [_]) (new := [_, _, _]) sizeOf4 rfl rfl rfl rfl rfl rfl .head rfl rfl<|z2 (zAi rfl)<|z6 ?_
   exact ⟨(e, true), zR1, zR1, zLe, by simp_all⟩
  ·refine zf ?_
   exact ⟨(n, h.2), zR1, zR1, zLe, by simp_all⟩
 ·rintro ⟨m, w⟩ ⟨h1, h2⟩
  dsimp only at h1 h2
  subst h1 h2
  refine zt (fun j => Nat.beq j 10) (by kernel_rfl) rfl (zp (.r (.rest _)))<|zTk 0 rfl (zMp rfl)<|zTk 1 rfl (zMp rfl)<|zTk 2 rfl (ym rfl)<|zTk 3 rfl (zq underlying261 rfl sizeOf74 (by decide) rfl rfl)<|zTk 4 rfl (yi (l := [_, _]) isAgg74 sizeOf74 rfl ⟨_, .head⟩ rfl rfl)<|zTk 5 rfl (zMi rfl)<|zOn 6 rfl<|zb (iOf _) rfl<|z6<|zOn 7 rfl<|zb (iJoin _ _) rfl<|z6<|AAny.takeK (i := 8) rfl (by kernel_rfl) (by kernel_rfl) (by kernel_rfl) (by kernel_rfl) (ym rfl)<|zTk 9 rfl (zq underlying261 rfl sizeOf74 (by decide) rfl rfl)<|yf<|yl (i := 10) rfl (by kernel_rfl) (by kernel_rfl)<|yu (l := [_, _]) (new := [_, _, _]) sizeOf74 rfl rfl rfl rfl rfl rfl .head rfl rfl<|z6<|yh (by kernel_rfl)<|afin.t0 ?_
  exact ⟨rfl, rfl⟩
set_option maxHeartbeats 4000000 in
theorem iCorners (op : Int) (k : Nat) (hk : k ≤ 2) (hop : op = 2 + (k : Int)) {a b : Rng} (ha : ok64 a) (hb : ok64 b) : AFun prog E 218 [.int .i64 op, .agg (encZ a), .agg (encZ b)] (.agg (encH (cornP k a b))) := by
 obtain ⟨st, hst⟩ : ∃ st, hSt (op3 k) (fun x y => decide (fit3 k x y)) (near3 k) (noR, false) a b = st := ⟨_, rfl⟩
 have hstep : ∀ (i j : Nat), j < 2 → st (2 * i + (j + 1)) = hAdd (st (2 * i + j)) (op3 k (selR a i) (selR b j)) (decide (fit3 k (selR a i) (selR b j))) (near3 k (selR a i) (selR b j)) := fun i j hj => by rw [← hst]; exact hSt_step i hj
 have h4 : st 4 = cornP k a b := by rw [← hst]; rfl
 have h0 : st 0 = (noR, false) := by rw [← hst]; rfl
 refine zn func218 rfl (by decide) rfl<|zSr<|y1 (cs := _) rfl rfl rfl<|y1 (cs := _) rfl rfl rfl<|zo (cs := [.int .i64 0, .int .i64 0, .bool false]) zeroValue261 rfl rfl<|fun i6 => z6<|zSr<|zb (iNone) rfl<|z2 (zx (cps := [(0, [_, _])]) (rs := [_, _, .bool false]) pl261 rfl rfl rfl)<|zo (cs := [.int .i64 0, .int .i64 0, .bool false]) zeroValue261 rfl rfl<|fun i7 => zc sizeOf261 rfl rfl rfl rfl rfl rfl .head rfl<|z6<|za<|zSr<|z2 (zFF underlying74 rfl sizeOf2 rfl rfl)<|z2 (zLi isAgg2 rfl)<|z2 (zFF underlying74 rfl sizeOf2 rfl rfl)<|z2 (zLi isAgg2 rfl)<|z2 (Gv.buildA (cps := [(0, [_]), (1, [_])]) (rs := [_, _]) pl280 rfl rfl rfl)<|z2 (zMi rfl)<|z6<|zi<|y6 (γ := Nat) [0, 5, 6, 7, 24] (fun i => [(25, .int .i64 i)]) (fun i => [(i7, .cells 261 (encH (st (2 * i)))), (i6, .cells 261 [.int .i64 0, .int .i64 0, .bool false])]) (fun i => i ≤ 2) (fun i => 2 - i) 0 zR1 ⟨_, (.refl _), by rw [h0]; rfl⟩ ((by omega)) ?_
 rintro i hi
 refine zSr<|z2 (y7 rfl rfl)<|z6<|za<|zl rfl (fun ci=>?_) (fun ci=>?_)
 ·have hi2 : i < 2 := by omega
  have hx := sel_ok ha i
  refine zf<|za<|zi<|zSr<|z2 (Gv.index1 (n := 2) (j := i) (cs := [.int .i64 a.1, .int .i64 a.2]) (v := .int .i64 (selR a i)) underlying280 isAgg2 sizeOf2 rfl rfl rfl hi2 (sel_get hi2))<|z2 (zAi rfl)<|z6<|zSr<|z2 (zFF underlying74 rfl sizeOf2 rfl rfl)<|z2 (zLi isAgg2 rfl)<|z2 (zFF underlying74 rfl sizeOf2 rfl rfl)<|z2 (zLi isAgg2 rfl)<|z2 (Gv.buildA (cps := [(0, [_]), (1, [_])]) (rs := [_, _]) pl280 rfl rfl rfl)<|z2 (zMi rfl)<|z6<|zi<|y6 (γ := Nat) [0, 5, 6, 7, 9, 24, 25, 32] (fun j => [(33, .int .i64 j)]) (fun j => [(i7, .cells 261 (encH (st (2 * i + j)))), (i6, .cells 261 [.int .i64 0, .int .i64 0, .bool false])]) (fun j => j ≤ 2) (fun j => 2 - j) 0 zR1 zLe ((by omega)) ?_
  rintro j hj
  refine zSr<|z2 (y7 rfl rfl)<|z6<|za<|zl rfl (fun cj=>?_) (fun cj=>?_)
  ·have hj2 : j < 2 := by omega
   have hy := sel_ok hb j
   have hs := hstep i j hj2
   refine zf<|za<|zi<|zSr<|z2 (Gv.index1 (n := 2) (j := j) (cs := [.int .i64 b.1, .int .i64 b.2]) (v := .int .i64 (selR b j)) underlying280 isAgg2 sizeOf2 rfl rfl rfl hj2 (sel_get hj2))<|z2 (zAi rfl)<|z6<|zSr<|z2 (zMi rfl)<|z6<|zi<|zSr<|z2 (zw rfl rfl)<|z2 (zAb rfl)<|z6<|zl rfl (fun c2=>?_) (fun c2=>?_)
   ·have hk0 : k = 0 := by omega
    subst hk0
    refine zSr<|z2 (zMi rfl)<|z2 (zMi rfl)<|zb (aAdd hx hy) rfl<|z2 (zMu rfl)<|z2 (zXi rfl rfl)<|z2 (zXb rfl rfl)<|z2 (zAi rfl)<|z2 (zAb rfl)<|z6<|zRg<|z2 (zMi rfl)<|z2 (zMb rfl)<|z2 (zMi rfl)<|z2 (y7 rfl rfl)<|zb (iNear _) rfl<|y5 rfl (zp (.l (.r (.rest _)))) (hull_add i7 _ _ _ _) ?_
    rintro r50 O50 ⟨rfl, rfl⟩
    refine z6<|zRg<|z2 (zAd rfl rfl)<|z2 (zMi rfl)<|z6 ?_
    exact ⟨j + 1, zR8, zR1, ⟨_, (.refl _), by rw [hs, hAdd_fit add_fit (near_0 _ (selR b j))]; rfl⟩, hj2, by omega⟩
   ·refine zSr<|z2 (zw rfl rfl)<|z2 (zAb rfl)<|z6<|zl rfl (fun c3=>?_) (fun c3=>?_)
    ·have hk0 : k = 1 := by omega
     subst hk0
     refine zSr<|z2 (zMi rfl)<|z2 (zMi rfl)<|zb (aSub hx hy) rfl<|z2 (zMu rfl)<|z2 (zXi rfl rfl)<|z2 (zXb rfl rfl)<|z2 (zAi rfl)<|z2 (zAb rfl)<|z6<|zRg<|z2 (zMi rfl)<|z2 (zMb rfl)<|z2 (zMi rfl)<|z2 (y7 rfl rfl)<|zb (iNear _) rfl<|y5 rfl (zp (.l (.r (.rest _)))) (hull_add i7 _ _ _ _) ?_
     rintro r64 O64 ⟨rfl, rfl⟩
     refine z6<|zRg<|z2 (zAd rfl rfl)<|z2 (zMi rfl)<|z6 ?_
     exact ⟨j + 1, zR8, zR1, ⟨_, (.refl _), by rw [hs, hAdd_fit sub_fit (near_1 _ (selR b j))]; rfl⟩, hj2, by omega⟩
    ·refine zSr<|z2 (zw rfl rfl)<|z2 (zAb rfl)<|z6<|zl rfl (fun c4=>?_) (fun c4=>?_)
     ·have hk0 : k = 2 := by omega
      subst hk0
      refine zSr<|z2 (zMi rfl)<|z2 (zMi rfl)<|zb (aMul hx hy) rfl<|z2 (zMu rfl)<|z2 (zXi rfl rfl)<|z2 (zXb rfl rfl)<|z2 (zAi rfl)<|z2 (zAb rfl)<|z6<|zRg<|z2 (zMi rfl)<|z2 (zMb rfl)<|z2 (zMi rfl)<|z2 (y7 rfl rfl)<|z2 (zMi rfl)<|z2 (y7 rfl rfl)<|z2 (Gv.neqB underlying4 rfl rfl)<|zb (iNear _) rfl<|y5 rfl (zp (.l (.r (.rest _)))) (hull_add i7 _ _ _ _) ?_
      rintro r81 O81 ⟨rfl, rfl⟩
      refine z6<|zRg<|z2 (zAd rfl rfl)<|z2 (zMi rfl)<|z6 ?_
      exact ⟨j + 1, zR8, zR1, ⟨_, (.refl _), by rw [hs, hAdd_fit mul_fit3 (near_2 _ (selR b j))]; rfl⟩, hj2, by omega⟩
     ·exfalso; omega
  ·have hj2 : j = 2 := by omega
   subst hj2
   refine y3<|zRg<|z2 (zAd rfl rfl)<|z2 (zMi rfl)<|z6 ?_
   exact ⟨i + 1, zR5, zR1, ⟨_, (.refl _), by rw [show 2 * (i + 1) = 2 * i + 2 by omega]⟩, hi2, by omega⟩
 ·have hi2 : i = 2 := by omega
  subst hi2
  refine y3<|zSr<|z2 (yp isAgg261 sizeOf261 rfl ⟨_, .head⟩ rfl)<|zc sizeOf261 rfl rfl rfl rfl rfl rfl .t1 rfl<|z6<|zd<|y8 rfl ⟨_, .t1⟩ isAgg261 sizeOf261 rfl ?_
  rw [← h4]; try rfl
theorem iQuot {a b : Rng} (ha : ok64 a) : AFun prog E 219 [.agg (encZ a), .agg (encZ b)] (.agg (encZ (quotP a b))) := by
 have h0 : quoT a b 0 = (noR, false) := rfl
 refine zn func219 rfl (by decide) rfl<|zSr<|y1 (cs := _) rfl rfl rfl<|y1 (cs := _) rfl rfl rfl<|zo (cs := [.int .i64 0, .int .i64 0]) zeroValue74 rfl rfl<|fun i4 => z6<|zSr<|zb (iNone) rfl<|z2 (zx (cps := [(0, [_, _])]) (rs := [_, _, .bool false]) pl261 rfl rfl rfl)<|zo (cs := [.int .i64 0, .int .i64 0, .bool false]) zeroValue261 rfl rfl<|fun i5 => zc sizeOf261 rfl rfl rfl rfl rfl rfl .head rfl<|z6<|za<|za<|zt (fun j => false) (by kernel_rfl) rfl (zp (.rest _))<|zTk 0 rfl (zh isAgg74 sizeOf74 rfl rfl)<|zTk 1 rfl (zx (cps := [(0, [_]), (1, [_])]) (rs := [_, _]) pl74 rfl rfl rfl)<|zTk 3 rfl (zh isAgg74 sizeOf74 rfl rfl)<|zTk 4 rfl (zx (cps := [(0, [_]), (1, [_])]) (rs := [_, _]) pl74 rfl rfl rfl)<|zTk 7 rfl (zMi rfl)<|zOn 2 rfl<|zb (iMeet b (m64, -1)) rfl<|z6<|zOn 5 rfl<|zb (iMeet b (1, M64)) rfl<|z6<|zTk 6 rfl (Gv.buildA (cps := [(0, [_, _]), (1, [_, _])]) (rs := [_, _, _, _]) pl283 rfl rfl rfl)<|zDn<|zi<|y6 (γ := Nat) [2, 4, 5, 22] (fun q => [(23, .int .i64 q)]) (fun q => [(i5, .cells 261 (encH (quoT a b q))), (i4, .cells 74 [.int .i64 0, .int .i64 0])]) (fun q => q ≤ 2) (fun q => 2 - q) 0 zR1 zLe ((by omega)) ?_
 rintro q hq
 refine zSr<|z2 (y7 rfl rfl)<|z6<|za<|zl rfl (fun cq=>?_) (fun cq=>?_)
 ·have hq2 : q < 2 := by omega
  have hqs : quoT a b (q + 1) = quoH a (partR b q) (quoT a b q) := rfl
  obtain ⟨p, hp⟩ : ∃ p, partR b q = p := ⟨_, rfl⟩
  have hpg := part_get (b := b) hq2
  rw [hp] at hqs hpg
  refine zf<|za<|zi<|zSr<|z2 (Gv.indexA (n := 2) (j := q) (k := 2) (cs := encZ (rMeet b (m64, -1)) ++ encZ (rMeet b (1, M64))) (l := encZ p) underlying283 isAgg74 sizeOf74 rfl rfl rfl hq2 hpg)<|zo (cs := [.int .i64 0, .int .i64 0]) zeroValue74 rfl rfl<|fun i7 => zc sizeOf74 rfl rfl rfl rfl rfl rfl .head rfl<|z6<|yd (ya (t := 7) rfl .head)<|za<|zSr<|z2 (zh isAgg74 sizeOf74 rfl rfl)<|zb (iEmpty _) rfl<|z6<|zl rfl (fun ce=>?_) (fun ce=>?_)
  ·refine y3<|zRg<|z2 (zAd rfl rfl)<|z2 (zMi rfl)<|z6 ?_
   exact ⟨q + 1, zR4, zR1, ⟨_, (.refl _), by rw [hqs, quoH, if_pos ce]⟩, hq2, by omega⟩
  ·obtain ⟨st, hst⟩ : ∃ st, hSt Int.tdiv fitD (fun _ _ => M64) (quoT a b q) a p = st := ⟨_, rfl⟩
   have hstep : ∀ (i j : Nat), j < 2 → st (2 * i + (j + 1)) = hAdd (st (2 * i + j)) ((selR a i).tdiv (selR p j)) (fitD (selR a i) (selR p j)) M64 := fun i j hj => by rw [← hst]; exact hSt_step i hj
   have h4 : st 4 = quoT a b (q + 1) := by rw [hqs, quoH, if_neg ce, ← hst]; rfl
   have hs0 : st 0 = quoT a b q := by rw [← hst]; rfl
   refine zf<|zSr<|z2 (zFF underlying74 rfl sizeOf2 rfl rfl)<|z2 (zLi isAgg2 rfl)<|z2 (zFF underlying74 rfl sizeOf2 rfl rfl)<|z2 (zLi isAgg2 rfl)<|z2 (Gv.buildA (cps := [(0, [_]), (1, [_])]) (rs := [_, _]) pl280 rfl rfl rfl)<|z2 (zMi rfl)<|z6<|zi<|y6 (γ := Nat) [2, 4, 5, 7, 22, 23, 32] (fun i => [(33, .int .i64 i)]) (fun i => [(i5, .cells 261 (encH (st (2 * i)))), (i4, .cells 74 [.int .i64 0, .int .i64 0])]) (fun i => i ≤ 2) (fun i => 2 - i) 0 zR1 ⟨_, (.refl _), by rw [hs0]⟩ ((by omega)) ?_
   rintro i hi
   refine zSr<|z2 (y7 rfl rfl)<|z6<|za<|zl rfl (fun ci=>?_) (fun ci=>?_)
   ·have hi2 : i < 2 := by omega
    have hx := sel_ok ha i
    refine zf<|za<|zi<|zSr<|z2 (Gv.index1 (n := 2) (j := i) (cs := [.int .i64 a.1, .int .i64 a.2]) (v := .int .i64 (selR a i)) underlying280 isAgg2 sizeOf2 rfl rfl rfl hi2 (sel_get hi2))<|z2 (zAi rfl)<|z6<|zSr<|z2 (zFF underlying74 rfl sizeOf2 rfl rfl)<|z2 (zLi isAgg2 rfl)<|z2 (zFF underlying74 rfl sizeOf2 rfl rfl)<|z2 (zLi isAgg2 rfl)<|z2 (Gv.buildA (cps := [(0, [_]), (1, [_])]) (rs := [_, _]) pl280 rfl rfl rfl)<|z2 (zMi rfl)<|z6<|zi<|y6 (γ := Nat) [2, 4, 5, 7, 9, 22, 23, 32, 33, 40] (fun j => [(41, .int .i64 j)]) (fun j => [(i5, .cells 261 (encH (st (2 * i + j)))), (i4, .cells 74 [.int .i64 0, .int .i64 0])]) (fun j => j ≤ 2) (fun j => 2 - j) 0 zR1 zLe ((by omega)) ?_
    rintro j hj
    refine zSr<|z2 (y7 rfl rfl)<|z6<|za<|zl rfl (fun cj=>?_) (fun cj=>?_)
    ·have hj2 : j < 2 := by omega
     have hs := hstep i j hj2
     have hy : selR p j ≠ 0 := by have := part_nz (b := b) (q := q) (j := j) (by rw [hp]; exact ce); rwa [hp] at this
     refine zf<|za<|zi<|zSr<|z2 (Gv.index1 (n := 2) (j := j) (cs := [.int .i64 p.1, .int .i64 p.2]) (v := .int .i64 (selR p j)) underlying280 isAgg2 sizeOf2 rfl rfl rfl hj2 (sel_get hj2))<|z2 (zAi rfl)<|z6<|zSr<|z2 (zMi rfl)<|z2 (zMi rfl)<|zb (aDiv hy) rfl<|z2 (zMu rfl)<|z2 (zXi rfl rfl)<|z2 (zXb rfl rfl)<|z2 (zAi rfl)<|z2 (zAb rfl)<|z6<|zRg<|z2 (zMi rfl)<|z2 (zMi rfl)<|z2 (yk rfl rfl)<|z2 (zMb rfl)<|zr (s := 53) rfl (fun c1=>?_) (fun c1=>?_)
     ·have hf : fitD (selR a i) (selR p j) = true := by unfold fitD; simp_all [m64]
      refine z7 rfl rfl c1<|z7 rfl rfl c1<|z2 (zPt rfl c1 rfl)<|y5 rfl (zp (.l (.r (.rest _)))) (hull_add i5 _ _ _ _) ?_
      rintro r57 O57 ⟨rfl, rfl⟩
      refine z6<|zRg<|z2 (zAd rfl rfl)<|z2 (zMi rfl)<|z6 ?_
      exact ⟨j + 1, zR10, zR1, ⟨_, (.refl _), by rw [hs, hf, hAdd_fit (fits := true) (fun _ => quo_fit hx hy hf) (show (9223372036854775807 : Int) = M64 from rfl)]; rfl⟩, hj2, by omega⟩
     ·have hf : fitD (selR a i) (selR p j) = !decide (selR p j = -1) := by unfold fitD; simp_all [m64]
      refine z8 rfl rfl c1<|z2 (zMi rfl)<|z8 rfl rfl c1<|z2 (yk rfl rfl)<|z2 (zPf rfl c1 rfl)<|y5 rfl (zp (.l (.r (.rest _)))) (hull_add i5 _ _ _ _) ?_
      rintro r57 O57 ⟨rfl, rfl⟩
      refine z6<|zRg<|z2 (zAd rfl rfl)<|z2 (zMi rfl)<|z6 ?_
      exact ⟨j + 1, zR10, zR1, ⟨_, (.refl _), by rw [hs, hf, hAdd_fit (fits := !decide (selR p j = -1)) (fun h => quo_fit hx hy (by rw [hf]; exact h)) (show (9223372036854775807 : Int) = M64 from rfl)]; rfl⟩, hj2, by omega⟩
    ·have hj2 : j = 2 := by omega
     subst hj2
     refine y3<|zRg<|z2 (zAd rfl rfl)<|z2 (zMi rfl)<|z6 ?_
     exact ⟨i + 1, zR7, zR1, ⟨_, (.refl _), by rw [show 2 * (i + 1) = 2 * i + 2 by omega]⟩, hi2, by omega⟩
   ·have hi2 : i = 2 := by omega
    subst hi2
    refine y3<|zRg<|z2 (zAd rfl rfl)<|z2 (zMi rfl)<|z6 ?_
    exact ⟨q + 1, zR4, zR1, ⟨_, (.refl _), by rw [← h4]⟩, hq2, by omega⟩
 ·have hq2 : q = 2 := by omega
  subst hq2
  refine y3<|za<|zSr<|z2 (zq underlying261 rfl sizeOf4 (by decide) rfl rfl)<|z2 (zu (c := .bool _) isAgg4 rfl ⟨_, .head⟩ rfl)<|z6<|zy rfl (fun cw=>?_) (fun cw=>?_)
  ·refine zSr<|zb (iAll) rfl<|zc sizeOf74 rfl rfl rfl rfl rfl rfl .t1 rfl<|z6<|zd<|y8 rfl ⟨_, .t1⟩ isAgg74 sizeOf74 rfl ?_
   rw [quoT_2, if_pos cw]; try rfl
  ·refine zf<|zSr<|z2 (zq underlying261 rfl sizeOf74 (by decide) rfl rfl)<|z2 (yi (l := [_, _]) isAgg74 sizeOf74 rfl ⟨_, .head⟩ rfl rfl)<|zc sizeOf74 rfl rfl rfl rfl rfl rfl .t1 rfl<|z6<|zd<|y8 rfl ⟨_, .t1⟩ isAgg74 sizeOf74 rfl ?_
   rw [quoT_2, if_neg (by simpa using cw)]; try rfl
theorem iRests {a b : Rng} (ha : ok64 a) (hb : ok64 b) : AFun prog E 220 [.agg (encZ a), .agg (encZ b)] (.agg (encZ (restP a b))) := by
 have ha1 := ha.1; have ha2 := ha.2; have hb1 := hb.1; have hb2 := hb.2
 unfold is64 at ha1 ha2 hb1 hb2
 refine zn func220 rfl (by decide) rfl<|zSr<|y1 (cs := _) rfl rfl rfl<|y1 (cs := _) rfl rfl rfl<|zo (cs := [.int .i64 0, .int .i64 0]) zeroValue74 rfl rfl<|fun i4 => z6<|za<|za<|zt (fun j => false) (by kernel_rfl) rfl (zp (.rest _))<|zTk 0 rfl (zh isAgg74 sizeOf74 rfl rfl)<|zOn 1 rfl<|zb (iOf _) rfl<|z6<|zTk 2 rfl (Gv.eqlP (xs := [.int _ _, .int _ _]) (ys := [.int _ _, .int _ _]) (by kernel_rfl) rfl rfl (fun w => eq_range _ _ _ _ w))<|zDn<|zl rfl (fun c0=>?_) (fun c0=>?_)
 ·refine zSr<|zb (iNone) rfl<|zc sizeOf74 rfl rfl rfl rfl rfl rfl .head rfl<|z6<|zd<|y8 rfl ⟨_, .head⟩ isAgg74 sizeOf74 rfl ?_
  rw [restP, if_pos (by obtain ⟨b1, b2⟩ := b; obtain ⟨h1, h2⟩ := c0; exact Prod.ext h1 h2)]; try rfl
 ·have c0 : ¬ b = (0, 0) := fun e => c0 (by rw [e]; exact ⟨rfl, rfl⟩)
  refine zf<|zSr<|z2 (zAi rfl)<|z6<|za<|zSr<|z2 (zFF underlying74 rfl sizeOf2 rfl rfl)<|z2 (zLi isAgg2 rfl)<|z2 (y7 rfl rfl)<|z6<|yb (γ := Int) [2, 3, 4] (fun k => [(5, .int .i64 k)]) (fun k => [(i4, .cells 74 [.int .i64 0, .int .i64 0])]) (fun k => k = if b.1 < 0 then -(b.1 + 1) else 0) ?_ (fun _ _ h => h) ?_
  ·refine zl rfl (fun c1=>?_) (fun c1=>?_)
   ·refine zRg<|z2 (zFF underlying74 rfl sizeOf2 rfl rfl)<|z2 (zLi isAgg2 rfl)<|z2 (zAd rfl rfl)<|z2 (Gv.neg rfl)<|z2 (zAi rfl)<|z6 ?_
    exact ⟨IntKind.i64.wrap (0 - (b.1 + 1)), zR3, zR1, zLe, by rw [if_pos c1, wrap_fit (by unfold is64; omega)]; omega⟩
   ·refine zf ?_
    exact ⟨0, zR3, zR1, zLe, by rw [if_neg c1]⟩
  ·rintro k hk
   have hkr : 0 ≤ k ∧ k ≤ 9223372036854775807 := by rw [hk]; split <;> omega
   refine za<|zSr<|z2 (zFF underlying74 rfl sizeOf2 rfl rfl)<|z2 (zLi isAgg2 rfl)<|z2 (yq rfl rfl)<|z6<|yb (γ := Int) [2, 4] (fun m => [(5, .int .i64 m)]) (fun m => [(i4, .cells 74 [.int .i64 0, .int .i64 0])]) (fun m => m = if 0 < b.2 then imax k (b.2 - 1) else k) ?_ (fun _ _ h => h) ?_
   ·refine zl rfl (fun c1=>?_) (fun c1=>?_)
    ·refine zRg<|z2 (zMi rfl)<|z2 (zFF underlying74 rfl sizeOf2 rfl rfl)<|z2 (zLi isAgg2 rfl)<|z2 (Gv.sub rfl rfl (by unfold I64; omega))<|z2 (Gv.maxI rfl rfl)<|z2 (zAi rfl)<|z6 ?_
     exact ⟨imax k (b.2 - 1), zR2, zR1, zLe, by rw [if_pos c1]⟩
    ·refine zf ?_
     exact ⟨k, zR2, zR1, zLe, by rw [if_neg c1]⟩
   ·rintro m hm
    have hmr : 0 ≤ m ∧ m ≤ 9223372036854775807 := by rw [hm]; unfold imax; (repeat' split) <;> omega
    have hr : restP a b = (if a.1 < 0 then imax a.1 (-m) else 0, if 0 < a.2 then imin a.2 m else 0) := by subst hm hk; rw [restP, if_neg c0]
    rw [hr]
    refine zSr<|zb (iOf _) rfl<|zo (cs := [.int .i64 0, .int .i64 0]) zeroValue74 rfl rfl<|fun i6 => zc sizeOf74 rfl rfl rfl rfl rfl rfl .head rfl<|z6<|za<|zSr<|z2 (zFF underlying74 rfl sizeOf2 rfl rfl)<|z2 (zLi isAgg2 rfl)<|z2 (y7 rfl rfl)<|z6<|yb (γ := Int) [2, 4, 5, 6] (fun x => []) (fun x => [(i6, .cells 74 [.int .i64 x, .int .i64 0]), (i4, .cells 74 [.int .i64 0, .int .i64 0])]) (fun x => x = if a.1 < 0 then imax a.1 (-m) else 0) ?_ (fun _ _ h => h) ?_
    ·refine zl rfl (fun c1=>?_) (fun c1=>?_)
     ·refine zRg<|z2 (zFF underlying74 rfl sizeOf2 rfl rfl)<|z2 (zLi isAgg2 rfl)<|z2 (zMi rfl)<|z2 (Gv.neg rfl)<|z2 (Gv.maxI rfl rfl)<|z2 (zq underlying74 rfl sizeOf2 (by decide) rfl rfl)<|yu (l := [_]) (new := [_, _]) sizeOf2 rfl rfl rfl rfl rfl rfl .head rfl rfl<|z6 ?_
      exact ⟨imax a.1 (IntKind.i64.wrap (0 - m)), zR4, trivial, zLe, by rw [if_pos c1, wrap_fit (by unfold is64; omega), Int.zero_sub]⟩
     ·refine zf ?_
      exact ⟨0, zR4, trivial, zLe, by rw [if_neg c1]⟩
    ·rintro x hx
     refine za<|zSr<|z2 (zFF underlying74 rfl sizeOf2 rfl rfl)<|z2 (zLi isAgg2 rfl)<|z2 (yq rfl rfl)<|z6<|zl rfl (fun c1=>?_) (fun c1=>?_)
     ·refine zRg<|z2 (zFF underlying74 rfl sizeOf2 rfl rfl)<|z2 (zLi isAgg2 rfl)<|z2 (zMi rfl)<|z2 (Gv.minI rfl rfl)<|z2 (zq underlying74 rfl sizeOf2 (by decide) rfl rfl)<|yu (l := [_]) (new := [_, _]) sizeOf2 rfl rfl rfl rfl rfl rfl .head rfl rfl<|z6<|zSr<|z2 (yp isAgg74 sizeOf74 rfl ⟨_, .head⟩ rfl)<|zc sizeOf74 rfl rfl rfl rfl rfl rfl .t1 rfl<|z6<|zd<|y8 rfl ⟨_, .t1⟩ isAgg74 sizeOf74 rfl ?_
      rw [← hx, if_pos c1]; try rfl
     ·refine zf<|zSr<|z2 (yp isAgg74 sizeOf74 rfl ⟨_, .head⟩ rfl)<|zc sizeOf74 rfl rfl rfl rfl rfl rfl .t1 rfl<|z6<|zd<|y8 rfl ⟨_, .t1⟩ isAgg74 sizeOf74 rfl ?_
      rw [← hx, if_neg c1]; try rfl
def applyP (op : Int) (a b : Rng) : Rng :=
 if a.2 < a.1 ∨ b.2 < b.1 then noR else if op = 2 then sumP 0 a b false else if op = 3 then sumP 1 a b false else if op = 4 then sumP 2 a b false else if op = 5 then quotP a b else if op = 6 then restP a b else allR
def clipP (op : Int) (a b : Rng) : Rng :=
 if a.2 < a.1 ∨ b.2 < b.1 then noR else if op = 2 then sumP 0 a b true else if op = 3 then sumP 1 a b true else if op = 4 then sumP 2 a b true else if op = 5 then quotP a b else if op = 6 then restP a b else allR
theorem sum_op {op : Int} (h : op = 2 ∨ op = 3 ∨ op = 4) : ∃ k : Nat, k ≤ 2 ∧ op = 2 + (k : Int) := ⟨(op - 2).toNat, by omega, by omega⟩
theorem apply_sum {op : Int} {k : Nat} (hk : k ≤ 2) (h : op = 2 + (k : Int)) {a b : Rng} (hn : ¬ (a.2 < a.1 ∨ b.2 < b.1)) : applyP op a b = sumP k a b false ∧ clipP op a b = sumP k a b true := by
 unfold applyP clipP
 rw [if_neg hn, if_neg hn]
 rcases (by omega : k = 0 ∨ k = 1 ∨ k = 2) with rfl | rfl | rfl <;> subst h <;> exact ⟨rfl, rfl⟩
theorem apply_clip {op : Int} {a b : Rng} (hc : (a.2 < a.1 ∨ b.2 < b.1) ∨ ¬ (op = 2 ∨ op = 3 ∨ op = 4)) : applyP op a b = clipP op a b := by
 unfold applyP clipP
 by_cases h : a.2 < a.1 ∨ b.2 < b.1
 ·rw [if_pos h, if_pos h]
 ·have hs : ¬ (op = 2 ∨ op = 3 ∨ op = 4) := hc.resolve_left h
  rw [not_or, not_or] at hs
  obtain ⟨h2, h3, h4⟩ := hs
  rw [if_neg h, if_neg h]
  simp only [h2, h3, h4, if_false]
theorem iApply (op : Int) {a b : Rng} (ha : ok64 a) (hb : ok64 b) : AFun prog E 178 [.int .i64 op, .agg (encZ a), .agg (encZ b)] (.agg (encZ (applyP op a b))) := by
 refine zn func178 rfl (by decide) rfl<|zSr<|y1 (cs := _) rfl rfl rfl<|y1 (cs := _) rfl rfl rfl<|zo (cs := [.int .i64 0, .int .i64 0]) zeroValue74 rfl rfl<|fun i6 => z6<|za<|zi<|za<|yb (γ := Bool) [0, 4, 5, 6] (fun u => [(8, .bool u)]) (fun u => [(i6, .cells 74 [.int .i64 0, .int .i64 0])]) (fun u => u = decide (a.2 < a.1 ∨ b.2 < b.1)) ?_ (fun _ _ h => h) ?_
 ·refine zRg<|z2 (zh isAgg74 sizeOf74 rfl rfl)<|zb (iEmpty _) rfl<|z2 (zMb rfl)<|zr (s := 11) rfl (fun c3=>?_) (fun c3=>?_)
  ·refine z7 rfl rfl c3<|z7 rfl rfl c3<|z2 (zPt rfl c3 rfl)<|z2 (zAb rfl)<|z6 ?_
   exact ⟨_, zR4, zR1, zLe, by simp_all <;> omega⟩
  ·refine z8 rfl rfl c3<|z2 (zh isAgg74 sizeOf74 rfl rfl)<|z8 rfl rfl c3<|zb (iEmpty _) rfl<|z2 (zPf rfl c3 rfl)<|z2 (zAb rfl)<|z6 ?_
   exact ⟨_, zR4, zR1, zLe, by simp_all <;> omega⟩
 ·rintro u hu
  subst hu
  refine zl rfl (fun cn=>?_) (fun cn=>?_)
  ·refine zSr<|zb (iNone) rfl<|zc sizeOf74 rfl rfl rfl rfl rfl rfl .head rfl<|z6<|zd<|y8 rfl ⟨_, .head⟩ isAgg74 sizeOf74 rfl ?_
   rw [applyP, if_pos cn]; try rfl
  ·refine zSr<|z2 (zMi rfl)<|zb (iSums _) rfl<|z2 (zAb rfl)<|z6<|zy rfl (fun cs=>?_) (fun cs=>?_)
   ·have hs : op = 2 ∨ op = 3 ∨ op = 4 := by simpa using cs
    obtain ⟨k, hk, hop⟩ := sum_op hs
    rw [(apply_sum hk hop cn).1]
    refine zSr<|z2 (zMi rfl)<|z2 (zh isAgg74 sizeOf74 rfl rfl)<|z2 (zh isAgg74 sizeOf74 rfl rfl)<|zb (iCorners op k hk hop ha hb) rfl<|zo (cs := [.int .i64 0, .int .i64 0, .bool false]) zeroValue261 rfl rfl<|fun i7 => zc sizeOf261 rfl rfl rfl rfl rfl rfl .head rfl<|z6<|zSr<|z2 (zq underlying261 rfl sizeOf4 (by decide) rfl rfl)<|z2 (zu (c := .bool _) isAgg4 rfl ⟨_, .head⟩ rfl)<|z2 (yg rfl)<|z6<|zy rfl (fun cw=>?_) (fun cw=>?_)
    ·refine zSr<|z2 (zq underlying261 rfl sizeOf74 (by decide) rfl rfl)<|z2 (yi (l := [_, _]) isAgg74 sizeOf74 rfl ⟨_, .head⟩ rfl rfl)<|zc sizeOf74 rfl rfl rfl rfl rfl rfl .t1 rfl<|z6<|zd<|y8 rfl ⟨_, .t1⟩ isAgg74 sizeOf74 rfl ?_
     rw [sumP, if_neg (by decide), if_neg (by simpa using cw)]; try rfl
    ·refine zf<|zSr<|zb (iAll) rfl<|zc sizeOf74 rfl rfl rfl rfl rfl rfl .t1 rfl<|z6<|zd<|y8 rfl ⟨_, .t1⟩ isAgg74 sizeOf74 rfl ?_
     rw [sumP, if_neg (by decide), if_pos (by simpa using cw)]; try rfl
   ·have hs : ¬ (op = 2 ∨ op = 3 ∨ op = 4) := by simpa using cs
    rw [applyP, if_neg cn, if_neg (by omega), if_neg (by omega), if_neg (by omega)]
    refine zSr<|z2 (zMi rfl)<|z2 (zw rfl rfl)<|z2 (zAb rfl)<|z6<|zl rfl (fun c5=>?_) (fun c5=>?_)
    ·refine zSr<|z2 (zh isAgg74 sizeOf74 rfl rfl)<|z2 (zh isAgg74 sizeOf74 rfl rfl)<|zb (iQuot ha) rfl<|zc sizeOf74 rfl rfl rfl rfl rfl rfl .head rfl<|z6<|zd<|y8 rfl ⟨_, .head⟩ isAgg74 sizeOf74 rfl ?_
     rw [if_pos c5]; try rfl
    ·rw [if_neg c5]
     refine zSr<|z2 (zMi rfl)<|z2 (zw rfl rfl)<|z2 (zAb rfl)<|z6<|zl rfl (fun c6=>?_) (fun c6=>?_)
     ·refine zSr<|z2 (zh isAgg74 sizeOf74 rfl rfl)<|z2 (zh isAgg74 sizeOf74 rfl rfl)<|zb (iRests ha hb) rfl<|zc sizeOf74 rfl rfl rfl rfl rfl rfl .head rfl<|z6<|zd<|y8 rfl ⟨_, .head⟩ isAgg74 sizeOf74 rfl ?_
      rw [if_pos c6]; try rfl
     ·refine zf<|zSr<|zb (iAll) rfl<|zc sizeOf74 rfl rfl rfl rfl rfl rfl .head rfl<|z6<|zd<|y8 rfl ⟨_, .head⟩ isAgg74 sizeOf74 rfl ?_
      rw [if_neg c6]; try rfl
theorem iClip (op : Int) {a b : Rng} (ha : ok64 a) (hb : ok64 b) : AFun prog E 216 [.int .i64 op, .agg (encZ a), .agg (encZ b)] (.agg (encZ (clipP op a b))) := by
 refine zn func216 rfl (by decide) rfl<|zSr<|y1 (cs := _) rfl rfl rfl<|y1 (cs := _) rfl rfl rfl<|zo (cs := [.int .i64 0, .int .i64 0]) zeroValue74 rfl rfl<|fun i6 => z6<|za<|za<|yb (γ := Bool) [0, 4, 5, 6] (fun u => [(17, .bool u)]) (fun u => [(i6, .cells 74 [.int .i64 0, .int .i64 0])]) (fun u => u = decide ((a.2 < a.1 ∨ b.2 < b.1) ∨ ¬ (op = 2 ∨ op = 3 ∨ op = 4))) ?_ (fun _ _ h => h) ?_
 ·refine zRg<|z2 (zh isAgg74 sizeOf74 rfl rfl)<|zb (iEmpty _) rfl<|z2 (zMb rfl)<|zr (s := 9) rfl (fun c4=>?_) (fun c4=>?_)
  ·refine z7 rfl rfl c4<|z7 rfl rfl c4<|z2 (zPt rfl c4 rfl)<|z2 (zMb rfl)<|z7 rfl rfl rfl<|z7 rfl rfl rfl<|z7 rfl rfl rfl<|z2 (zPt rfl rfl rfl)<|z6 ?_
   exact ⟨_, zR4, zR1, zLe, by simp_all <;> omega⟩
  ·refine z8 rfl rfl c4<|z2 (zh isAgg74 sizeOf74 rfl rfl)<|z8 rfl rfl c4<|zb (iEmpty _) rfl<|z2 (zPf rfl c4 rfl)<|z2 (zMb rfl)<|zr (s := 13) rfl (fun c5=>?_) (fun c5=>?_)
   ·refine z7 rfl rfl c5<|z7 rfl rfl c5<|z7 rfl rfl c5<|z2 (zPt rfl c5 rfl)<|z6 ?_
    exact ⟨_, zR4, zR1, zLe, by simp_all <;> omega⟩
   ·refine z8 rfl rfl c5<|z2 (zMi rfl)<|z8 rfl rfl c5<|zb (iSums _) rfl<|z8 rfl rfl c5<|z2 (yg rfl)<|z2 (zPf rfl c5 rfl)<|z6 ?_
    exact ⟨_, zR4, zR1, zLe, by simp_all <;> omega⟩
 ·rintro u hu
  subst hu
  refine zl rfl (fun cn=>?_) (fun cn=>?_)
  ·refine zSr<|z2 (zMi rfl)<|z2 (zh isAgg74 sizeOf74 rfl rfl)<|z2 (zh isAgg74 sizeOf74 rfl rfl)<|zb (iApply op ha hb) rfl<|zc sizeOf74 rfl rfl rfl rfl rfl rfl .head rfl<|z6<|zd<|y8 rfl ⟨_, .head⟩ isAgg74 sizeOf74 rfl ?_
   rw [apply_clip cn]; try rfl
  ·obtain ⟨k, hk, hop⟩ := sum_op (Classical.byContradiction fun h => cn (.inr h))
   have hn : ¬ (a.2 < a.1 ∨ b.2 < b.1) := fun h => cn (.inl h)
   rw [(apply_sum hk hop hn).2]
   refine zf<|zSr<|z2 (zMi rfl)<|z2 (zh isAgg74 sizeOf74 rfl rfl)<|z2 (zh isAgg74 sizeOf74 rfl rfl)<|zb (iCorners op k hk hop ha hb) rfl<|z2 (Gv.fieldA (l := [_, _]) underlying261 rfl isAgg74 sizeOf74 rfl rfl)<|zc sizeOf74 rfl rfl rfl rfl rfl rfl .head rfl<|z6<|zd<|y8 rfl ⟨_, .head⟩ isAgg74 sizeOf74 rfl ?_
   rw [sumP, if_pos rfl]; try rfl
end Go.Proofs.YtjnpcfpecilejaaGreatDoor
namespace Go.Proofs.YtjnpcfpecilejaaGreatDoor
open Go.Proofs.Tryz
open Go.Proofs
variable {E : World}
set_option maxRecDepth 20000
theorem iWiden (t : Int) (a b : Rng) : AFun prog E 203 [.int .i64 t, .agg (encZ a), .agg (encZ b)] (.agg (encZ (widQ (rType t) a b))) := by
 obtain ⟨tt, htt⟩ : ∃ tt, rType t = tt := ⟨_, rfl⟩
 obtain ⟨j, hj⟩ : ∃ j, rJoin a b = j := ⟨_, rfl⟩
 have hw : widQ (rType t) a b = if a.2 < a.1 then j else (if j.1 < a.1 ∧ tt.1 ≤ tt.2 then imin j.1 tt.1 else j.1, if a.2 < j.2 ∧ tt.1 ≤ tt.2 then imax j.2 tt.2 else j.2) := by subst htt hj; rfl
 rw [hw]
 have hJ := iJoin (E := E) a b
 rw [hj] at hJ
 have hT := iType (E := E) t
 rw [htt] at hT
 refine zn func203 rfl (by decide) rfl<|zSr<|y1 (cs := _) rfl rfl rfl<|y1 (cs := _) rfl rfl rfl<|zo (cs := [.int .i64 0, .int .i64 0]) zeroValue74 rfl rfl<|fun i6 => z6<|zSr<|z2 (zh isAgg74 sizeOf74 rfl rfl)<|z2 (zh isAgg74 sizeOf74 rfl rfl)<|zb (hJ) rfl<|z2 (zMi rfl)<|zb (hT) rfl<|zo (cs := [.int .i64 0, .int .i64 0]) zeroValue74 rfl rfl<|fun i7 => zo (cs := [.int .i64 0, .int .i64 0]) zeroValue74 rfl rfl<|fun i8 => zc sizeOf74 rfl rfl rfl rfl rfl rfl .t1 rfl<|zc sizeOf74 rfl rfl rfl rfl rfl rfl .head rfl<|z6<|yd (ya (t := 8) rfl .head)<|za<|zSr<|z2 (zh isAgg74 sizeOf74 rfl rfl)<|zb (iEmpty _) rfl<|z6<|zl rfl (fun ce=>?_) (fun ce=>?_)
 ·refine zSr<|z2 (yp isAgg74 sizeOf74 rfl ⟨_, .head⟩ rfl)<|zc sizeOf74 rfl rfl rfl rfl rfl rfl .t1 rfl<|z6<|zd<|y8 rfl ⟨_, .t1⟩ isAgg74 sizeOf74 rfl ?_
  rw [if_pos ce]; try rfl
 ·rw [if_neg ce]
  refine zf<|za<|za<|yb (γ := Bool) [4, 6, 7, 8] (fun u => [(26, .bool u)]) (fun u => [(i7, .cells 74 (encZ j)), (i6, .cells 74 [.int .i64 0, .int .i64 0])]) (fun u => u = decide (j.1 < a.1 ∧ tt.1 ≤ tt.2)) ?_ (fun _ _ h => h) ?_
  ·refine zRg<|z2 (zq underlying74 rfl sizeOf2 (by decide) rfl rfl)<|z2 (zu (c := .int _ _) isAgg2 rfl ⟨_, .head⟩ rfl)<|z2 (zFF underlying74 rfl sizeOf2 rfl rfl)<|z2 (zLi isAgg2 rfl)<|z2 (y7 rfl rfl)<|z2 (zMb rfl)<|zr (s := 22) rfl (fun c1=>?_) (fun c1=>?_)
   ·refine z8 rfl rfl c1<|z2 (zh isAgg74 sizeOf74 rfl rfl)<|z8 rfl rfl c1<|zb (iEmpty _) rfl<|z8 rfl rfl c1<|z2 (yg rfl)<|z2 (zPt rfl c1 rfl)<|z6 ?_
    exact ⟨_, zR4, zR1, zLe, by have : j.1 < a.1 := (by simpa using c1); simp [this]; rw [qq]; simp⟩
   ·refine z7 rfl rfl c1<|z7 rfl rfl c1<|z7 rfl rfl c1<|z2 (zPf rfl c1 rfl)<|z6 ?_
    exact ⟨_, zR4, zR1, zLe, by have : ¬ j.1 < a.1 := (by simpa using c1); simp [this]⟩
  ·rintro u hu
   subst hu
   refine yb (γ := Int) [4, 6, 7, 8] (fun x => []) (fun x => [(i7, .cells 74 [.int .i64 x, .int .i64 j.2]), (i6, .cells 74 [.int .i64 0, .int .i64 0])]) (fun x => x = if j.1 < a.1 ∧ tt.1 ≤ tt.2 then imin j.1 tt.1 else j.1) ?_ (fun _ _ h => h) ?_
   ·refine zl rfl (fun c1=>?_) (fun c1=>?_)
    ·refine zRg<|z2 (zq underlying74 rfl sizeOf2 (by decide) rfl rfl)<|z2 (zu (c := .int _ _) isAgg2 rfl ⟨_, .head⟩ rfl)<|z2 (zFF underlying74 rfl sizeOf2 rfl rfl)<|z2 (zLi isAgg2 rfl)<|z2 (Gv.minI rfl rfl)<|z2 (zq underlying74 rfl sizeOf2 (by decide) rfl rfl)<|yu (l := [_]) (new := [_, _]) sizeOf2 rfl rfl rfl rfl rfl rfl .head rfl rfl<|z6 ?_
     exact ⟨imin j.1 tt.1, zR4, trivial, zLe, by rw [if_pos c1]⟩
    ·refine zf ?_
     exact ⟨j.1, zR4, trivial, zLe, by rw [if_neg c1]⟩
   ·rintro x hx
    refine za<|za<|yb (γ := Bool) [6, 7, 8] (fun u => [(42, .bool u)]) (fun u => [(i7, .cells 74 [.int .i64 x, .int .i64 j.2]), (i6, .cells 74 [.int .i64 0, .int .i64 0])]) (fun u => u = decide (a.2 < j.2 ∧ tt.1 ≤ tt.2)) ?_ (fun _ _ h => h) ?_
    ·refine zRg<|z2 (zq underlying74 rfl sizeOf2 (by decide) rfl rfl)<|z2 (zu (c := .int _ _) isAgg2 rfl ⟨_, .head⟩ rfl)<|z2 (zFF underlying74 rfl sizeOf2 rfl rfl)<|z2 (zLi isAgg2 rfl)<|z2 (yq rfl rfl)<|z2 (zMb rfl)<|zr (s := 38) rfl (fun c1=>?_) (fun c1=>?_)
     ·refine z8 rfl rfl c1<|z2 (zh isAgg74 sizeOf74 rfl rfl)<|z8 rfl rfl c1<|zb (iEmpty _) rfl<|z8 rfl rfl c1<|z2 (yg rfl)<|z2 (zPt rfl c1 rfl)<|z6 ?_
      exact ⟨_, zR3, zR1, zLe, by have : a.2 < j.2 := (by simpa using c1); simp [this]; rw [qq]; simp⟩
     ·refine z7 rfl rfl c1<|z7 rfl rfl c1<|z7 rfl rfl c1<|z2 (zPf rfl c1 rfl)<|z6 ?_
      exact ⟨_, zR3, zR1, zLe, by have : ¬ a.2 < j.2 := (by simpa using c1); simp [this]⟩
    ·rintro u hu
     subst hu
     rw [← hx]
     refine zl rfl (fun c1=>?_) (fun c1=>?_)
     ·refine zRg<|z2 (zq underlying74 rfl sizeOf2 (by decide) rfl rfl)<|z2 (zu (c := .int _ _) isAgg2 rfl ⟨_, .head⟩ rfl)<|z2 (zFF underlying74 rfl sizeOf2 rfl rfl)<|z2 (zLi isAgg2 rfl)<|z2 (Gv.maxI rfl rfl)<|z2 (zq underlying74 rfl sizeOf2 (by decide) rfl rfl)<|yu (l := [_]) (new := [_, _]) sizeOf2 rfl rfl rfl rfl rfl rfl .head rfl rfl<|z6<|zSr<|z2 (yp isAgg74 sizeOf74 rfl ⟨_, .head⟩ rfl)<|zc sizeOf74 rfl rfl rfl rfl rfl rfl .t1 rfl<|z6<|zd<|y8 rfl ⟨_, .t1⟩ isAgg74 sizeOf74 rfl ?_
      rw [if_pos c1]; try rfl
     ·refine zf<|zSr<|z2 (yp isAgg74 sizeOf74 rfl ⟨_, .head⟩ rfl)<|zc sizeOf74 rfl rfl rfl rfl rfl rfl .t1 rfl<|z6<|zd<|y8 rfl ⟨_, .t1⟩ isAgg74 sizeOf74 rfl ?_
      rw [if_neg c1]; try rfl
def alwB (op : Int) (a b : Rng) : Bool := if op = 7 then decide (a.1 = a.2) && decide (a = b) else if op = 8 then decide (a.2 < b.1) else if op = 9 then decide (a.2 ≤ b.1) else false
def nevB (op : Int) (a b : Rng) : Bool := if op = 7 then decide ((rMeet a b).2 < (rMeet a b).1) else if op = 8 then decide (b.2 ≤ a.1) else if op = 9 then decide (b.2 < a.1) else false
theorem truthP_b (op : Int) (a b : Rng) : truthP op a b = if a.2 < a.1 ∨ b.2 < b.1 then noR else truP (alwB op a b) (nevB op a b) := by
 unfold truthP alwB nevB
 by_cases h : a.2 < a.1 ∨ b.2 < b.1
 ·rw [if_pos h, if_pos h]
 ·rw [if_neg h, if_neg h]
  by_cases h7 : op = 7
  ·rw [if_pos h7, if_pos h7, if_pos h7]
  ·rw [if_neg h7, if_neg h7, if_neg h7]
   by_cases h8 : op = 8
   ·rw [if_pos h8, if_pos h8, if_pos h8]
   ·rw [if_neg h8, if_neg h8, if_neg h8]
    by_cases h9 : op = 9
    ·rw [if_pos h9, if_pos h9, if_pos h9]
    ·rw [if_neg h9, if_neg h9, if_neg h9]; rfl
theorem rng_eq (a b : Rng) : decide (a.1 = b.1 ∧ a.2 = b.2) = decide (a = b) := decide_eq_decide.2 ⟨fun h => Prod.ext h.1 h.2, fun h => by rw [h]; exact ⟨rfl, rfl⟩⟩
theorem iTruth (op : Int) (a b : Rng) : AFun prog E 179 [.int .i64 op, .agg (encZ a), .agg (encZ b)] (.agg (encZ (truthP op a b))) := by
 rw [truthP_b]
 refine zn func179 rfl (by decide) rfl<|zSr<|y1 (cs := _) rfl rfl rfl<|y1 (cs := _) rfl rfl rfl<|zo (cs := [.int .i64 0, .int .i64 0]) zeroValue74 rfl rfl<|fun i6 => z6<|zSr<|z2 (zAb rfl)<|z2 (zAb rfl)<|z6<|za<|zSr<|z2 (zMi rfl)<|z6<|yb (γ := Bool × Bool) [4, 5, 6] (fun g => [(8, .bool g.1), (7, .bool g.2)]) (fun g => [(i6, .cells 74 [.int .i64 0, .int .i64 0])]) (fun g => g.1 = alwB op a b ∧ g.2 = nevB op a b) ?_ (fun _ _ h => h) ?_
 ·refine zi<|zSr<|z2 (zw rfl rfl)<|z2 (zAb rfl)<|z6<|zl rfl (fun c7=>?_) (fun c7=>?_)
  ·refine zSr<|z2 (zFF underlying74 rfl sizeOf2 rfl rfl)<|z2 (zLi isAgg2 rfl)<|z2 (zFF underlying74 rfl sizeOf2 rfl rfl)<|z2 (zLi isAgg2 rfl)<|z2 (zw rfl rfl)<|z2 (zMb rfl)<|zr (s := 17) rfl (fun c=>?_) (fun c=>?_)
   ·refine z8 rfl rfl c<|z2 (zh isAgg74 sizeOf74 rfl rfl)<|z8 rfl rfl c<|z2 (zh isAgg74 sizeOf74 rfl rfl)<|z8 rfl rfl c<|z2 (Gv.eqlP (xs := [.int _ _, .int _ _]) (ys := [.int _ _, .int _ _]) (by kernel_rfl) rfl rfl (fun w => eq_range _ _ _ _ w))<|z2 (zPt rfl c rfl)<|z2 (zAb rfl)<|z6<|zRg<|z2 (zh isAgg74 sizeOf74 rfl rfl)<|z2 (zh isAgg74 sizeOf74 rfl rfl)<|zb (iMeet _ _) rfl<|zb (iEmpty _) rfl<|z2 (zAb rfl)<|z6 ?_
    exact ⟨(decide (a.1 = b.1 ∧ a.2 = b.2), decide ((rMeet a b).2 < (rMeet a b).1)), zR3, zR2, zLe, by dsimp only; exact ⟨by rw [alwB, if_pos c7, rng_eq, show decide (a.1 = a.2) = true from c]; rfl, by rw [nevB, if_pos c7]⟩⟩
   ·refine z7 rfl rfl c<|z7 rfl rfl c<|z7 rfl rfl c<|z2 (zPf rfl c rfl)<|z2 (zAb rfl)<|z6<|zRg<|z2 (zh isAgg74 sizeOf74 rfl rfl)<|z2 (zh isAgg74 sizeOf74 rfl rfl)<|zb (iMeet _ _) rfl<|zb (iEmpty _) rfl<|z2 (zAb rfl)<|z6 ?_
    exact ⟨(false, decide ((rMeet a b).2 < (rMeet a b).1)), zR3, zR2, zLe, by dsimp only; exact ⟨by rw [alwB, if_pos c7, show decide (a.1 = a.2) = false from c]; rfl, by rw [nevB, if_pos c7]⟩⟩
  ·refine zSr<|z2 (zw rfl rfl)<|z2 (zAb rfl)<|z6<|zl rfl (fun c8=>?_) (fun c8=>?_)
   ·refine zt (fun j => false) (by kernel_rfl) rfl (zp (.rest _))<|zTk 0 rfl (zFF underlying74 rfl sizeOf2 rfl rfl)<|zTk 1 rfl (zLi isAgg2 rfl)<|zTk 2 rfl (zFF underlying74 rfl sizeOf2 rfl rfl)<|zTk 3 rfl (zLi isAgg2 rfl)<|zTk 4 rfl (y7 rfl rfl)<|zTk 5 rfl (zFF underlying74 rfl sizeOf2 rfl rfl)<|zTk 6 rfl (zLi isAgg2 rfl)<|zTk 7 rfl (zFF underlying74 rfl sizeOf2 rfl rfl)<|zTk 8 rfl (zLi isAgg2 rfl)<|zTk 9 rfl (q0 rfl rfl)<|zTk 10 rfl (zAb rfl)<|zTk 11 rfl (zAb rfl)<|zDn ?_
    exact ⟨(decide (a.2 < b.1), decide (b.2 ≤ a.1)), zR3, zR2, zLe, by dsimp only; exact ⟨by rw [alwB, if_neg c7, if_pos c8], by rw [nevB, if_neg c7, if_pos c8]⟩⟩
   ·refine zSr<|z2 (zw rfl rfl)<|z2 (zAb rfl)<|z6<|zl rfl (fun c9=>?_) (fun c9=>?_)
    ·refine zt (fun j => false) (by kernel_rfl) rfl (zp (.rest _))<|zTk 0 rfl (zFF underlying74 rfl sizeOf2 rfl rfl)<|zTk 1 rfl (zLi isAgg2 rfl)<|zTk 2 rfl (zFF underlying74 rfl sizeOf2 rfl rfl)<|zTk 3 rfl (zLi isAgg2 rfl)<|zTk 4 rfl (Gv.leq rfl rfl)<|zTk 5 rfl (zFF underlying74 rfl sizeOf2 rfl rfl)<|zTk 6 rfl (zLi isAgg2 rfl)<|zTk 7 rfl (zFF underlying74 rfl sizeOf2 rfl rfl)<|zTk 8 rfl (zLi isAgg2 rfl)<|zTk 9 rfl (yq rfl rfl)<|zTk 10 rfl (zAb rfl)<|zTk 11 rfl (zAb rfl)<|zDn ?_
     exact ⟨(decide (a.2 ≤ b.1), decide (b.2 < a.1)), zR3, zR2, zLe, by dsimp only; exact ⟨by rw [alwB, if_neg c7, if_neg c8, if_pos c9], by rw [nevB, if_neg c7, if_neg c8, if_pos c9]⟩⟩
    ·refine zf ?_
     exact ⟨(false, false), zR3, zR2, zLe, by dsimp only; exact ⟨by rw [alwB, if_neg c7, if_neg c8, if_neg c9], by rw [nevB, if_neg c7, if_neg c8, if_neg c9]⟩⟩
 ·rintro ⟨al, ne⟩ ⟨h1, h2⟩
  dsimp only at h1 h2
  rw [← h1, ← h2]
  refine za<|zi<|za<|yb (γ := Bool) [6, 7, 8] (fun u => [(50, .bool u)]) (fun u => [(i6, .cells 74 [.int .i64 0, .int .i64 0])]) (fun u => u = decide (a.2 < a.1 ∨ b.2 < b.1)) ?_ (fun _ _ h => h) ?_
  ·refine zRg<|z2 (zh isAgg74 sizeOf74 rfl rfl)<|zb (iEmpty _) rfl<|z2 (zMb rfl)<|zr (s := 53) rfl (fun c1=>?_) (fun c1=>?_)
   ·refine z7 rfl rfl c1<|z7 rfl rfl c1<|z2 (zPt rfl c1 rfl)<|z2 (zAb rfl)<|z6 ?_
    exact ⟨_, zR3, zR1, zLe, by simp_all <;> omega⟩
   ·refine z8 rfl rfl c1<|z2 (zh isAgg74 sizeOf74 rfl rfl)<|z8 rfl rfl c1<|zb (iEmpty _) rfl<|z2 (zPf rfl c1 rfl)<|z2 (zAb rfl)<|z6 ?_
    exact ⟨_, zR3, zR1, zLe, by simp_all <;> omega⟩
  ·rintro u hu
   subst hu
   refine zl rfl (fun cn=>?_) (fun cn=>?_)
   ·refine zSr<|zb (iNone) rfl<|zc sizeOf74 rfl rfl rfl rfl rfl rfl .head rfl<|z6<|zd<|y8 rfl ⟨_, .head⟩ isAgg74 sizeOf74 rfl ?_
    rw [if_pos cn]; try rfl
   ·rw [if_neg cn]
    refine zSr<|z2 (zMb rfl)<|z2 (zAb rfl)<|z6<|zy rfl (fun c1=>?_) (fun c1=>?_)
    ·refine zSr<|zb (iOf _) rfl<|zc sizeOf74 rfl rfl rfl rfl rfl rfl .head rfl<|z6<|zd<|y8 rfl ⟨_, .head⟩ isAgg74 sizeOf74 rfl ?_
     rw [show al = true from c1]; try rfl
    ·refine zSr<|z2 (zMb rfl)<|z2 (zAb rfl)<|z6<|zy rfl (fun c2=>?_) (fun c2=>?_)
     ·refine zSr<|zb (iOf _) rfl<|zc sizeOf74 rfl rfl rfl rfl rfl rfl .head rfl<|z6<|zd<|y8 rfl ⟨_, .head⟩ isAgg74 sizeOf74 rfl ?_
      rw [show al = false from c1, show ne = true from c2]; try rfl
     ·refine zf<|zSr<|z2 (zx (cps := [(0, [_]), (1, [_])]) (rs := [_, _]) pl74 rfl rfl rfl)<|zc sizeOf74 rfl rfl rfl rfl rfl rfl .head rfl<|z6<|zd<|y8 rfl ⟨_, .head⟩ isAgg74 sizeOf74 rfl ?_
      rw [show al = false from c1, show ne = false from c2]; try rfl
theorem iCut (num : Int) {a b : Rng} (hb : ok64 b) : AFun prog E 180 [.int .i64 num, .agg (encZ a), .agg (encZ b)] (.agg (encZ (cutP num a b))) := by
 have hb1 := hb.1; have hb2 := hb.2
 unfold is64 at hb1 hb2
 have hm : m64 = -9223372036854775808 := rfl
 have hM : M64 = 9223372036854775807 := rfl
 refine zn func180 rfl (by decide) rfl<|zSr<|y1 (cs := _) rfl rfl rfl<|y1 (cs := _) rfl rfl rfl<|zo (cs := [.int .i64 0, .int .i64 0]) zeroValue74 rfl rfl<|fun i6 => z6<|za<|za<|yb (γ := Bool) [0, 4, 5, 6] (fun u => [(12, .bool u)]) (fun u => [(i6, .cells 74 [.int .i64 0, .int .i64 0])]) (fun u => u = decide (a.2 < a.1 ∨ b.2 < b.1)) ?_ (fun _ _ h => h) ?_
 ·refine zRg<|z2 (zh isAgg74 sizeOf74 rfl rfl)<|zb (iEmpty _) rfl<|z2 (zMb rfl)<|zr (s := 9) rfl (fun c2=>?_) (fun c2=>?_)
  ·refine z7 rfl rfl c2<|z7 rfl rfl c2<|z2 (zPt rfl c2 rfl)<|z6 ?_
   exact ⟨_, zR4, zR1, zLe, by simp_all <;> omega⟩
  ·refine z8 rfl rfl c2<|z2 (zh isAgg74 sizeOf74 rfl rfl)<|z8 rfl rfl c2<|zb (iEmpty _) rfl<|z2 (zPf rfl c2 rfl)<|z6 ?_
   exact ⟨_, zR4, zR1, zLe, by simp_all <;> omega⟩
 ·rintro u hu
  subst hu
  refine zl rfl (fun cn=>?_) (fun cn=>?_)
  ·refine zSr<|zb (iNone) rfl<|zc sizeOf74 rfl rfl rfl rfl rfl rfl .head rfl<|z6<|zd<|y8 rfl ⟨_, .head⟩ isAgg74 sizeOf74 rfl ?_
   rw [cutP, if_pos cn]; try rfl
  ·rw [cutP, if_neg cn]
   refine zf<|za<|zSr<|z2 (zMi rfl)<|z6<|zi<|zSr<|z2 (zw rfl rfl)<|z2 (zAb rfl)<|z6<|zl rfl (fun c0=>?_) (fun c0=>?_)
   ·refine za<|zSr<|z2 (zFF underlying74 rfl sizeOf2 rfl rfl)<|z2 (zLi isAgg2 rfl)<|z2 (zw rfl rfl)<|z6<|zl rfl (fun cm=>?_) (fun cm=>?_)
    ·refine zSr<|zb (iNone) rfl<|zc sizeOf74 rfl rfl rfl rfl rfl rfl .head rfl<|z6<|zd<|y8 rfl ⟨_, .head⟩ isAgg74 sizeOf74 rfl ?_
     rw [if_pos c0, if_pos (show b.2 = m64 from cm)]; try rfl
    ·refine zf<|zSr<|z2 (zFF underlying74 rfl sizeOf2 rfl rfl)<|z2 (zLi isAgg2 rfl)<|z2 (zFF underlying74 rfl sizeOf2 rfl rfl)<|z2 (zLi isAgg2 rfl)<|z2 (zFF underlying74 rfl sizeOf2 rfl rfl)<|z2 (zLi isAgg2 rfl)<|z2 (Gv.sub rfl rfl (by unfold I64; omega))<|z2 (Gv.minI rfl rfl)<|zb (iMade _ _) rfl<|zc sizeOf74 rfl rfl rfl rfl rfl rfl .head rfl<|z6<|zd<|y8 rfl ⟨_, .head⟩ isAgg74 sizeOf74 rfl ?_
     rw [if_pos c0, if_neg (show ¬ b.2 = m64 from cm)]; try rfl
   ·rw [if_neg c0]
    refine zSr<|z2 (zw rfl rfl)<|z2 (zAb rfl)<|z6<|zl rfl (fun c1=>?_) (fun c1=>?_)
    ·refine zSr<|z2 (zFF underlying74 rfl sizeOf2 rfl rfl)<|z2 (zLi isAgg2 rfl)<|z2 (zFF underlying74 rfl sizeOf2 rfl rfl)<|z2 (zLi isAgg2 rfl)<|z2 (zFF underlying74 rfl sizeOf2 rfl rfl)<|z2 (zLi isAgg2 rfl)<|z2 (Gv.minI rfl rfl)<|zb (iMade _ _) rfl<|zc sizeOf74 rfl rfl rfl rfl rfl rfl .head rfl<|z6<|zd<|y8 rfl ⟨_, .head⟩ isAgg74 sizeOf74 rfl ?_
     rw [if_pos c1]; try rfl
    ·rw [if_neg c1]
     refine zSr<|z2 (zw rfl rfl)<|z2 (zAb rfl)<|z6<|zl rfl (fun c2=>?_) (fun c2=>?_)
     ·refine zSr<|z2 (zh isAgg74 sizeOf74 rfl rfl)<|z2 (zh isAgg74 sizeOf74 rfl rfl)<|zb (iMeet _ _) rfl<|zc sizeOf74 rfl rfl rfl rfl rfl rfl .head rfl<|z6<|zd<|y8 rfl ⟨_, .head⟩ isAgg74 sizeOf74 rfl ?_
      rw [if_pos c2]; try rfl
     ·rw [if_neg c2]
      refine zSr<|z2 (zw rfl rfl)<|z2 (zAb rfl)<|z6<|zl rfl (fun c3=>?_) (fun c3=>?_)
      ·refine zSr<|z2 (zFF underlying74 rfl sizeOf2 rfl rfl)<|z2 (zLi isAgg2 rfl)<|z2 (zFF underlying74 rfl sizeOf2 rfl rfl)<|z2 (zLi isAgg2 rfl)<|z2 (Gv.maxI rfl rfl)<|z2 (zFF underlying74 rfl sizeOf2 rfl rfl)<|z2 (zLi isAgg2 rfl)<|zb (iMade _ _) rfl<|zc sizeOf74 rfl rfl rfl rfl rfl rfl .head rfl<|z6<|zd<|y8 rfl ⟨_, .head⟩ isAgg74 sizeOf74 rfl ?_
       rw [if_pos c3]; try rfl
      ·rw [if_neg c3]
       refine zSr<|z2 (zw rfl rfl)<|z2 (zAb rfl)<|z6<|zl rfl (fun c4=>?_) (fun c4=>?_)
       ·refine za<|zSr<|z2 (zFF underlying74 rfl sizeOf2 rfl rfl)<|z2 (zLi isAgg2 rfl)<|z2 (zw rfl rfl)<|z6<|zl rfl (fun cm=>?_) (fun cm=>?_)
        ·refine zSr<|zb (iNone) rfl<|zc sizeOf74 rfl rfl rfl rfl rfl rfl .head rfl<|z6<|zd<|y8 rfl ⟨_, .head⟩ isAgg74 sizeOf74 rfl ?_
         rw [if_pos c4, if_pos (show b.1 = M64 from cm)]; try rfl
        ·refine zf<|zSr<|z2 (zFF underlying74 rfl sizeOf2 rfl rfl)<|z2 (zLi isAgg2 rfl)<|z2 (zFF underlying74 rfl sizeOf2 rfl rfl)<|z2 (zLi isAgg2 rfl)<|z2 (zAd rfl rfl)<|z2 (Gv.maxI rfl rfl)<|z2 (zFF underlying74 rfl sizeOf2 rfl rfl)<|z2 (zLi isAgg2 rfl)<|zb (iMade _ _) rfl<|zc sizeOf74 rfl rfl rfl rfl rfl rfl .head rfl<|z6<|zd<|y8 rfl ⟨_, .head⟩ isAgg74 sizeOf74 rfl ?_
         rw [if_pos c4, if_neg (show ¬ b.1 = M64 from cm)]; try rfl
       ·refine zf<|zSr<|z2 (zh isAgg74 sizeOf74 rfl rfl)<|zc sizeOf74 rfl rfl rfl rfl rfl rfl .head rfl<|z6<|zd<|y8 rfl ⟨_, .head⟩ isAgg74 sizeOf74 rfl ?_
        rw [if_neg c4]; try rfl
end Go.Proofs.YtjnpcfpecilejaaGreatDoor
