/- Tables of bounds: what the program asks of a node. Of programs that are little. -/
import Derived.Test.YtjnpcfpecilejaaGreatDoorHf
import Derived.Test.YtjnpcfpecilejaaGreatDoorHg
import Derived.Test.YtjnpcfpecilejaaGreatDoorHd
import Derived.Test.YtjnpcfpecilejaaGreatDoorHn
import Derived.Test.YtjnpcfpecilejaaGreatDoorHl
import Derived.Test.YtjnpcfpecilejaaGreatDoorHh
import Derived.Test.YtjnpcfpecilejaaGreatDoorHe
set_option linter.unusedVariables false
set_option linter.unusedSimpArgs false
set_option linter.unusedSectionVars false
namespace Go.Proofs.YtjnpcfpecilejaaGreatDoor
open Go.Proofs.Tryz
open Go.Proofs
theorem pl261 : Places prog 261 #[(0, 2), (2, 1)] [.int .i64 0, .int .i64 0, .bool false] := ⟨_, _, underlying261, zeroValue261, fun w => by kernel_rfl, rfl⟩
theorem pl280 : PlacesA prog 280 1 [.int .i64 0, .int .i64 0] := ⟨_, _, _, underlying280, zeroValue280, sizeOf2, rfl⟩
variable {E : World}
set_option maxRecDepth 20000
theorem aMul {x y : Int} (hx : is64 x) (hy : is64 y) : AFun prog E 237 [.int .i64 x, .int .i64 y] (.tup [.int .i64 (IntKind.i64.wrap (x * y)), .bool (decide (fit3 2 x y))]) := by
 rw [← mulB]
 refine zo func237 rfl (by decide) rfl<|zSr<|z2 (zAi rfl)<|z2 (zAb rfl)<|z6<|zSr<|z2 (zMi rfl)<|ze (aAbs hx) rfl<|z2 (zMi rfl)<|ze (aAbs hy) rfl<|ze (mul64_spec _ _ (abs_lt hx) (abs_lt hy)) rfl<|z2 (zMu rfl)<|z2 (zXi rfl rfl)<|z2 (zXi rfl rfl)<|z2 (zAi rfl)<|z2 (zAi rfl)<|z6<|zSr<|z2 (zAi rfl)<|z6<|za<|zSr<|z2 (zMi rfl)<|z2 (y8 rfl rfl)<|z2 (zMi rfl)<|z2 (y8 rfl rfl)<|z2 (Gv.neqB underlying4 rfl rfl)<|z6<|yc (γ := Int) [0, 1, 6, 7] (fun m => [(8, .int .u64 m)]) (fun m => []) (fun m => m = if (!(decide (x < 0) == decide (y < 0))) = true then 9223372036854775808 else 9223372036854775807) ?_ (fun _ _ h => h) ?_
 ·refine zr rfl (fun c1=>?_) (fun c1=>?_)
  ·refine zRg<|z2 (zMi rfl)<|z2 (Gv.addW rfl rfl)<|z2 (zAi rfl)<|z6 ?_
   exact ⟨_, zR4, zR1, zLe, by simp_all <;> first | rfl | decide⟩
  ·refine zc ?_
   exact ⟨_, zR4, zR1, zLe, by simp_all <;> first | rfl | decide⟩
 ·rintro m hm
  subst hm
  refine zSr<|z2 (zMi rfl)<|z2 (zMi rfl)<|z2 (Gv.mulW rfl rfl)<|z2 (zMi rfl)<|z2 (y3 rfl rfl)<|z2 (zMb rfl)<|zl (s := 29) rfl (fun c2=>?_) (fun c2=>?_)
  ·refine z8 rfl rfl c2<|z2 (zMi rfl)<|z8 rfl rfl c2<|z2 (zMi rfl)<|z8 rfl rfl c2<|z2 (Gv.leq rfl rfl)<|z2 (zPt rfl c2 rfl)<|z2 (zAi rfl)<|z2 (zAb rfl)<|z6<|zf<|q7 (x := .int _ _) (y := .bool _) rfl rfl ?_
   simp_all
  ·refine z7 rfl rfl c2<|z7 rfl rfl c2<|z7 rfl rfl c2<|z2 (zPf rfl c2 rfl)<|z2 (zAi rfl)<|z2 (zAb rfl)<|z6<|zf<|q7 (x := .int _ _) (y := .bool _) rfl rfl ?_
   simp_all
theorem hull_add (i : Nat) (h : Rng × Bool) (n : Int) (fits : Bool) (e : Int) : ACall prog E 234 [.po i 0, .int .i64 n, .bool fits, .int .i64 e] [(i, .cells 261 (encH h))] fun r O => r = .tup [] ∧ O = [(i, .cells 261 (encH (hAdd h n fits e)))] := by
 refine zo func234 rfl (by decide) rfl<|za<|zSr<|z2 (zMb rfl)<|z2 (yd rfl)<|z6<|yc (γ := Int × Bool) [0] (fun g => [(1, .int .i64 g.1)]) (fun g => [(i, .cells 261 (encH (h.1, g.2)))]) (fun g => g.1 = (if fits then n else e) ∧ g.2 = (h.2 || !fits)) ?_ (fun _ _ h => h) ?_
 ·refine zr rfl (fun c=>?_) (fun c=>?_)
  ·refine zRg<|z2 (zMp rfl)<|z2 (zMi rfl)<|z2 (ya rfl)<|z2 (zu underlying261 rfl sizeOf4 (by decide) rfl rfl)<|qg (l := [_]) (new := [_, _, _]) sizeOf4 rfl rfl rfl rfl rfl rfl .head rfl rfl<|z2 (zAi rfl)<|z6 ?_
   exact ⟨(e, true), zR1, zR1, zLe, by simp_all⟩
  ·refine zc ?_
   exact ⟨(n, h.2), zR1, zR1, zLe, by simp_all⟩
 ·rintro ⟨m, w⟩ ⟨h1, h2⟩
  dsimp only at h1 h2
  subst h1 h2
  refine y1 (fun j => Nat.beq j 10) (by kernel_rfl) rfl (zn (.r (.rest _)))<|zTk 0 rfl (zMp rfl)<|zTk 1 rfl (zMp rfl)<|zTk 2 rfl (ya rfl)<|zTk 3 rfl (zu underlying261 rfl sizeOf74 (by decide) rfl rfl)<|zTk 4 rfl (yp (l := [_, _]) isAgg74 sizeOf74 rfl ⟨_, .head⟩ rfl rfl)<|zTk 5 rfl (zMi rfl)<|zOn 6 rfl<|ze (iOf _) rfl<|z6<|zOn 7 rfl<|ze (iJoin _ _) rfl<|z6<|AAny.takeK (i := 8) rfl (by kernel_rfl) (by kernel_rfl) (by kernel_rfl) (by kernel_rfl) (ya rfl)<|zTk 9 rfl (zu underlying261 rfl sizeOf74 (by decide) rfl rfl)<|yw<|q4 (i := 10) rfl (by kernel_rfl) (by kernel_rfl)<|qg (l := [_, _]) (new := [_, _, _]) sizeOf74 rfl rfl rfl rfl rfl rfl .head rfl rfl<|z6<|yz (by kernel_rfl)<|ym ?_
  exact ⟨rfl, rfl⟩
set_option maxHeartbeats 4000000 in
theorem iCorners (op : Int) (k : Nat) (hk : k ≤ 2) (hop : op = 2 + (k : Int)) {a b : Rng} (ha : ok64 a) (hb : ok64 b) : AFun prog E 218 [.int .i64 op, .agg (encZ a), .agg (encZ b)] (.agg (encH (cornP k a b))) := by
 obtain ⟨st, hst⟩ : ∃ st, hSt (op3 k) (fun x y => decide (fit3 k x y)) (near3 k) (noR, false) a b = st := ⟨_, rfl⟩
 have hstep : ∀ (i j : Nat), j < 2 → st (2 * i + (j + 1)) = hAdd (st (2 * i + j)) (op3 k (selR a i) (selR b j)) (decide (fit3 k (selR a i) (selR b j))) (near3 k (selR a i) (selR b j)) := fun i j hj => by rw [← hst]; exact hSt_step i hj
 have h4 : st 4 = cornP k a b := by rw [← hst]; rfl
 have h0 : st 0 = (noR, false) := by rw [← hst]; rfl
 refine zo func218 rfl (by decide) rfl<|zSr<|y7 (cs := _) rfl rfl rfl<|y7 (cs := _) rfl rfl rfl<|zq (cs := [.int .i64 0, .int .i64 0, .bool false]) zeroValue261 rfl rfl<|fun i6 => z6<|zSr<|ze (iNone) rfl<|z2 (y5 (cps := [(0, [_, _])]) (rs := [_, _, .bool false]) pl261 rfl rfl rfl)<|zq (cs := [.int .i64 0, .int .i64 0, .bool false]) zeroValue261 rfl rfl<|fun i7 => zm sizeOf261 rfl rfl rfl rfl rfl rfl .head rfl<|z6<|za<|zSr<|z2 (zFF underlying74 rfl sizeOf2 rfl rfl)<|z2 (zLi isAgg2 rfl)<|z2 (zFF underlying74 rfl sizeOf2 rfl rfl)<|z2 (zLi isAgg2 rfl)<|z2 (Gv.buildA (cps := [(0, [_]), (1, [_])]) (rs := [_, _]) pl280 rfl rfl rfl)<|z2 (zMi rfl)<|z6<|zh<|y6 (γ := Nat) [0, 5, 6, 7, 24] (fun i => [(25, .int .i64 i)]) (fun i => [(i7, .cells 261 (encH (st (2 * i)))), (i6, .cells 261 [.int .i64 0, .int .i64 0, .bool false])]) (fun i => i ≤ 2) (fun i => 2 - i) 0 zR1 ⟨_, (.refl _), by rw [h0]; rfl⟩ ((by omega)) ?_
 rintro i hi
 refine zSr<|z2 (y8 rfl rfl)<|z6<|za<|zp rfl (fun ci=>?_) (fun ci=>?_)
 ·have hi2 : i < 2 := by omega
  have hx := sel_ok ha i
  refine zc<|za<|zh<|zSr<|z2 (Gv.index1 (n := 2) (j := i) (cs := [.int .i64 a.1, .int .i64 a.2]) (v := .int .i64 (selR a i)) underlying280 isAgg2 sizeOf2 rfl rfl rfl hi2 (sel_get hi2))<|z2 (zAi rfl)<|z6<|zSr<|z2 (zFF underlying74 rfl sizeOf2 rfl rfl)<|z2 (zLi isAgg2 rfl)<|z2 (zFF underlying74 rfl sizeOf2 rfl rfl)<|z2 (zLi isAgg2 rfl)<|z2 (Gv.buildA (cps := [(0, [_]), (1, [_])]) (rs := [_, _]) pl280 rfl rfl rfl)<|z2 (zMi rfl)<|z6<|zh<|y6 (γ := Nat) [0, 5, 6, 7, 9, 24, 25, 32] (fun j => [(33, .int .i64 j)]) (fun j => [(i7, .cells 261 (encH (st (2 * i + j)))), (i6, .cells 261 [.int .i64 0, .int .i64 0, .bool false])]) (fun j => j ≤ 2) (fun j => 2 - j) 0 zR1 zLe ((by omega)) ?_
  rintro j hj
  refine zSr<|z2 (y8 rfl rfl)<|z6<|za<|zp rfl (fun cj=>?_) (fun cj=>?_)
  ·have hj2 : j < 2 := by omega
   have hy := sel_ok hb j
   have hs := hstep i j hj2
   refine zc<|za<|zh<|zSr<|z2 (Gv.index1 (n := 2) (j := j) (cs := [.int .i64 b.1, .int .i64 b.2]) (v := .int .i64 (selR b j)) underlying280 isAgg2 sizeOf2 rfl rfl rfl hj2 (sel_get hj2))<|z2 (zAi rfl)<|z6<|zSr<|z2 (zMi rfl)<|z6<|zh<|zSr<|z2 (y3 rfl rfl)<|z2 (zAb rfl)<|z6<|zp rfl (fun c2=>?_) (fun c2=>?_)
   ·have hk0 : k = 0 := by omega
    subst hk0
    refine zSr<|z2 (zMi rfl)<|z2 (zMi rfl)<|ze (aAdd hx hy) rfl<|z2 (zMu rfl)<|z2 (zXi rfl rfl)<|z2 (zXb rfl rfl)<|z2 (zAi rfl)<|z2 (zAb rfl)<|z6<|zRg<|z2 (zMi rfl)<|z2 (zMb rfl)<|z2 (zMi rfl)<|z2 (y8 rfl rfl)<|ze (iNear _) rfl<|zt rfl (zn (.l (.r (.rest _)))) (hull_add i7 _ _ _ _) ?_
    rintro r50 O50 ⟨rfl, rfl⟩
    refine z6<|zRg<|z2 (zAd rfl rfl)<|z2 (zMi rfl)<|z6 ?_
    exact ⟨j + 1, zR8, zR1, ⟨_, (.refl _), by rw [hs, hAdd_fit add_fit (near_0 _ (selR b j))]; rfl⟩, hj2, by omega⟩
   ·refine zSr<|z2 (y3 rfl rfl)<|z2 (zAb rfl)<|z6<|zp rfl (fun c3=>?_) (fun c3=>?_)
    ·have hk0 : k = 1 := by omega
     subst hk0
     refine zSr<|z2 (zMi rfl)<|z2 (zMi rfl)<|ze (aSub hx hy) rfl<|z2 (zMu rfl)<|z2 (zXi rfl rfl)<|z2 (zXb rfl rfl)<|z2 (zAi rfl)<|z2 (zAb rfl)<|z6<|zRg<|z2 (zMi rfl)<|z2 (zMb rfl)<|z2 (zMi rfl)<|z2 (y8 rfl rfl)<|ze (iNear _) rfl<|zt rfl (zn (.l (.r (.rest _)))) (hull_add i7 _ _ _ _) ?_
     rintro r64 O64 ⟨rfl, rfl⟩
     refine z6<|zRg<|z2 (zAd rfl rfl)<|z2 (zMi rfl)<|z6 ?_
     exact ⟨j + 1, zR8, zR1, ⟨_, (.refl _), by rw [hs, hAdd_fit sub_fit (near_1 _ (selR b j))]; rfl⟩, hj2, by omega⟩
    ·refine zSr<|z2 (y3 rfl rfl)<|z2 (zAb rfl)<|z6<|zp rfl (fun c4=>?_) (fun c4=>?_)
     ·have hk0 : k = 2 := by omega
      subst hk0
      refine zSr<|z2 (zMi rfl)<|z2 (zMi rfl)<|ze (aMul hx hy) rfl<|z2 (zMu rfl)<|z2 (zXi rfl rfl)<|z2 (zXb rfl rfl)<|z2 (zAi rfl)<|z2 (zAb rfl)<|z6<|zRg<|z2 (zMi rfl)<|z2 (zMb rfl)<|z2 (zMi rfl)<|z2 (y8 rfl rfl)<|z2 (zMi rfl)<|z2 (y8 rfl rfl)<|z2 (Gv.neqB underlying4 rfl rfl)<|ze (iNear _) rfl<|zt rfl (zn (.l (.r (.rest _)))) (hull_add i7 _ _ _ _) ?_
      rintro r81 O81 ⟨rfl, rfl⟩
      refine z6<|zRg<|z2 (zAd rfl rfl)<|z2 (zMi rfl)<|z6 ?_
      exact ⟨j + 1, zR8, zR1, ⟨_, (.refl _), by rw [hs, hAdd_fit mul_fit3 (near_2 _ (selR b j))]; rfl⟩, hj2, by omega⟩
     ·exfalso; omega
  ·have hj2 : j = 2 := by omega
   subst hj2
   refine y4<|zRg<|z2 (zAd rfl rfl)<|z2 (zMi rfl)<|z6 ?_
   exact ⟨i + 1, zR5, zR1, ⟨_, (.refl _), by rw [show 2 * (i + 1) = 2 * i + 2 by omega]⟩, hi2, by omega⟩
 ·have hi2 : i = 2 := by omega
  subst hi2
  refine y4<|zSr<|z2 (Gv.loadWC isAgg261 sizeOf261 rfl ⟨_, .head⟩ rfl)<|zm sizeOf261 rfl rfl rfl rfl rfl rfl .t1 rfl<|z6<|zf<|q0 rfl ⟨_, .t1⟩ isAgg261 sizeOf261 rfl ?_
  rw [← h4]; try rfl
end Go.Proofs.YtjnpcfpecilejaaGreatDoor
namespace Go.Proofs.YtjnpcfpecilejaaGreatDoor
open Go.Proofs.Tryz
open Go.Proofs
variable {E : World}
set_option maxRecDepth 20000
theorem iFits (op : Int) (k : Nat) (hk : k ≤ 2) (hop : op = 2 + (k : Int)) {a b : Rng} (ha : ok64 a) (hb : ok64 b) : AFun prog E 200 [.int .i64 op, .agg (encZ a), .agg (encZ b)] (.bool (decide (a.2 < a.1 ∨ b.2 < b.1 ∨ cornF k a b))) := by
 have hcp := cornP_eq k a b
 refine zo func200 rfl (by decide) rfl<|zSr<|y7 (cs := _) rfl rfl rfl<|y7 (cs := _) rfl rfl rfl<|z2 (zAb rfl)<|z6<|za<|za<|yc (γ := Bool) [0, 4, 5] (fun u => [(12, .bool u)]) (fun u => []) (fun u => u = false) ?_ (fun _ _ h => h) ?_
 ·refine zRg<|z2 (zMi rfl)<|z2 (q9 rfl rfl)<|z2 (zMb rfl)<|zl (s := 9) rfl (fun c=>?_) (fun c=>?_)
  ·exfalso; simp at c; omega
  ·refine z7 rfl rfl c<|z7 rfl rfl c<|z2 (zPf rfl c rfl)<|z6 ?_
   exact ⟨_, zR3, zR1, zLe, rfl⟩
 ·rintro u hu
  subst hu
  refine yh rfl rfl<|zc<|zSr<|z2 (zMi rfl)<|ze (iSums _) rfl<|z2 (zMb rfl)<|zl (s := 18) rfl (fun c1=>?_) (fun c1=>?_)
  ·refine z8 rfl rfl c1<|z2 (zk isAgg74 sizeOf74 rfl rfl)<|z8 rfl rfl c1<|ze (iEmpty _) rfl<|z8 rfl rfl c1<|z2 (zMb rfl)<|zl (s := 21) rfl (fun c2=>?_) (fun c2=>?_)
   ·refine z7 rfl rfl c2<|z7 rfl rfl c2<|z8 rfl rfl c1<|z2 (zPt rfl c2 rfl)<|z8 rfl rfl c1<|z2 (zMb rfl)<|z7 rfl rfl rfl<|z7 rfl rfl rfl<|z7 rfl rfl rfl<|z7 rfl rfl rfl<|z7 rfl rfl rfl<|z7 rfl rfl rfl<|z8 rfl rfl c1<|z2 (zPt rfl rfl rfl)<|z2 (zPt rfl c1 rfl)<|z2 (zAb rfl)<|z6<|zf<|zj (x := .bool _) rfl ?_
    exact jb (by simp_all)
   ·refine z8 rfl rfl c2<|z2 (zk isAgg74 sizeOf74 rfl rfl)<|z8 rfl rfl c2<|ze (iEmpty _) rfl<|z8 rfl rfl c1<|z2 (zPf rfl c2 rfl)<|z8 rfl rfl c1<|z2 (zMb rfl)<|zl (s := 25) rfl (fun c3=>?_) (fun c3=>?_)
    ·refine z7 rfl rfl c3<|z7 rfl rfl c3<|z7 rfl rfl c3<|z7 rfl rfl c3<|z7 rfl rfl c3<|z7 rfl rfl c3<|z8 rfl rfl c1<|z2 (zPt rfl c3 rfl)<|z2 (zPt rfl c1 rfl)<|z2 (zAb rfl)<|z6<|zf<|zj (x := .bool _) rfl ?_
     exact jb (by simp_all)
    ·refine z8 rfl rfl c3<|z2 (zMi rfl)<|z8 rfl rfl c3<|z2 (zk isAgg74 sizeOf74 rfl rfl)<|z8 rfl rfl c3<|z2 (zk isAgg74 sizeOf74 rfl rfl)<|z8 rfl rfl c3<|ze (iCorners op k hk hop ha hb) rfl<|z8 rfl rfl c3<|z2 (Gv.field1 (v := .bool _) underlying261 rfl isAgg4 rfl rfl)<|z8 rfl rfl c3<|z2 (yd rfl)<|z8 rfl rfl c1<|z2 (zPf rfl c3 rfl)<|z2 (zPt rfl c1 rfl)<|z2 (zAb rfl)<|z6<|zf<|zj (x := .bool _) rfl ?_
     exact jb (by have h2 : ¬ a.2 < a.1 := (by simpa using c2); have h3 : ¬ b.2 < b.1 := (by simpa using c3); simp [h2, h3, hcp])
  ·exfalso; simp at c1; omega
end Go.Proofs.YtjnpcfpecilejaaGreatDoor
namespace Go.Proofs.YtjnpcfpecilejaaGreatDoor
open Go.Proofs.Tryz
open Go.Proofs Go.Lib Go.Shelf Go.RowKit
variable {E : World}
set_option maxRecDepth 20000
theorem ra_at {rs : List Rng} {i : Nat} (h : i < rs.length) : rs[i]? = some (ra rs i) := by unfold ra; rw [qj h]; rfl
def okRs (rs : List Rng) : Prop := ∀ r ∈ rs, ok64 r ∧ r.1 ≤ r.2
theorem okRs.at {rs : List Rng} (h : okRs rs) {i : Nat} (hi : i < rs.length) : ok64 (ra rs i) ∧ (ra rs i).1 ≤ (ra rs i).2 := by
 have := ra_at hi
 exact h _ (List.mem_of_getElem? this)
end Go.Proofs.YtjnpcfpecilejaaGreatDoor
namespace Go.Proofs.YtjnpcfpecilejaaGreatDoor
open Go.Proofs.Tryz
open Go.Proofs Go.Lib Go.Shelf Go.RowKit
theorem ps47_1 : PlacesS prog 47 75 1 2 [.int .i64 0, .int .i64 0] := ⟨_, underlying47, sizeOf75, zeroValue75, by decide, by decide, by kernel_rfl⟩
variable {E : World}
set_option maxRecDepth 20000
theorem ShapedP.ty {f : PFunc} (h : ShapedP f) {v : Nat} (hv : v < f.vars.length) : 0 ≤ tyV f v ∧ tyV f v ≤ 2 := by
 have h1 := h.2.2.1 v hv
 unfold tyV
 rw [show (v : Int).toNat = v from rfl, qj hv]
 exact ⟨h1.2.1, h1.2.2.1⟩
theorem small.made {f : PFunc} (hf : small f) : ∀ {k : Nat}, k ≤ f.blocks.length → (madeTo f k).length ≤ k * 2000
 | 0, _ => by simp [madeTo]
 | k + 1, hk => by
  have h1 := small.made hf (k := k) (by omega)
  obtain ⟨hb0, hb1, hb2, hb3, hb4⟩ := hf.2.2.2.2 _ (qn (show k < f.blocks.length by omega))
  rw [madeTo_succ (by omega), qp, qp]
  unfold madePh madeIn
  rw [qq, qq]
  have := List.length_filter_le (fun x : PInst => decide (0 ≤ x.dst)) (f.blocks[k]'(by omega)).insts
  omega
theorem lv_get {l : List Rng} {a : Int} (h : a.toNat < l.length) : l[a.toNat]? = some (lv l a) := by unfold lv; rw [qj h]; rfl
theorem hasV_rng {f : PFunc} {v : Int} (h : hasV f v = true) : 0 ≤ v ∧ v < f.vars.length := by simpa [hasV] using h
theorem ty_get {f : PFunc} (hS : ShapedP f) {a : Int} (h : hasV f a = true) : ∃ x, f.vars[a.toNat]? = some x ∧ x.ty = tyV f a ∧ 0 ≤ x.ty ∧ x.ty ≤ 2 := by
 obtain ⟨h0, h1⟩ := hasV_rng h
 have hl : a.toNat < f.vars.length := by omega
 have h2 := hS.2.2.1 _ hl
 refine ⟨f.vars[a.toNat], qj hl, ?_, h2.2.1, h2.2.2.1⟩
 unfold tyV; rw [qj hl]; rfl
theorem args_take {f : PFunc} {l : List Rng} {x : PInst} {m : Nat} (h : m < x.args.length) : (argsR f l x).take (m + 1) = (argsR f l x).take m ++ [ofR f l x.args[m]] := by
 unfold argsR
 rw [qk (by rw [qq]; exact h), List.getElem_map]
theorem Left.d1 {x : Nat × AObj} {O : OL} : Left (x :: O) O := ⟨_, .drop (.refl _), rfl⟩
theorem Left.d2 {x y : Nat × AObj} {O : OL} : Left (x :: y :: O) O := ⟨_, .drop (.drop (.refl _)), rfl⟩
theorem ACall.same {P : Program} {E : World} {f : FuncId} {ars : List AV} {O : OL} {x : AV} (h : ACall P E f ars O fun y O' => y = x ∧ Left O' O) : ACall P E f ars O fun y O' => y = x ∧ O' = O :=
 (ACall.exact (γ := Unit) (x := fun _ => x) (M := fun _ => O) (p := fun _ => True) (h.mono fun _ _ h => ⟨(), h.1, h.2, trivial⟩)).mono fun _ _ ⟨_, h1, h2, _⟩ => ⟨h1, h2⟩
end Go.Proofs.YtjnpcfpecilejaaGreatDoor
namespace Go.Proofs.YtjnpcfpecilejaaGreatDoor
open Go.Proofs.Tryz
open Go.Proofs Go.Lib Go.Shelf Go.RowKit
theorem pl226 : PlacesA prog 226 2 [.int .i64 0, .int .i64 0, .int .i64 0, .int .i64 0, .int .i64 0, .int .i64 0] := ⟨_, _, _, underlying226, zeroValue226, sizeOf74, rfl⟩
variable {E : World}
set_option maxRecDepth 20000
def viewL (f : PFunc) (chk : List Bool) (Lv : AV) : List AV := encF f ++ [.fro 2 ((makersT f).map eP.row), .fro 1 (chk.map encB), Lv]
def viewV (f : PFunc) (chk : List Bool) (Lv : AV) : AV := .pf (viewL f chk Lv)
def sameO (i : Nat) (HL : AObj) (x : AV) : AV → OL → Prop := fun y O => y = x ∧ O = [(i, HL)]
def c3 (rs : List Rng) : List AV := encZ (ra rs 0) ++ encZ (ra rs 1) ++ encZ (ra rs 2)
end Go.Proofs.YtjnpcfpecilejaaGreatDoor
namespace Go.Proofs.YtjnpcfpecilejaaGreatDoor
open Go.Proofs.Tryz
open Go.Proofs Go.Lib Go.Shelf Go.RowKit
variable {E : World}
set_option maxRecDepth 20000
structure RuleF (f : PFunc) : Prop where
 small : small f
 shaped : ShapedP f
 once : OnceP f
 bool : ∀ b ∈ f.blocks, ∀ x ∈ b.insts, x.op = 10 ∨ x.op = 11 → ∀ v ∈ x.args, tyV f v = 1
end Go.Proofs.YtjnpcfpecilejaaGreatDoor
namespace Go.Proofs.YtjnpcfpecilejaaGreatDoor
open Go.Proofs.Tryz
open Go.Proofs Go.Lib Go.Shelf Go.RowKit
set_option maxRecDepth 20000
variable {E : World}
theorem sum_take {α : Type} (g : α → Nat) : ∀ (l : List α) (k : Nat), ((l.take k).map g).sum ≤ (l.map g).sum
 | [], k => by simp
 | x :: l, 0 => by simp
 | x :: l, k + 1 => by
  have := sum_take g l k
  simp only [List.take_succ_cons, List.map_cons, List.sum_cons]; omega
theorem wP_take (l : List PPhi) (k : Nat) : wP (l.take k) ≤ wP l := sum_take _ l k
theorem wX_take (l : List PInst) (k : Nat) : wX (l.take k) ≤ wX l := sum_take _ l k
theorem little_le {f : PFunc} (h : little f) {k : Nat} (hk : k < f.blocks.length) : wV f.vars + wBs (f.blocks.take k) + wB f.blocks[k] ≤ 4000 := by
 have h1 := h.2.2.2.2.2 (fun e => by rw [e] at hk; exact absurd hk (Nat.not_lt_zero _))
 have h2 : wBs (f.blocks.take (k + 1)) ≤ wBs f.blocks := sum_take _ f.blocks (k + 1)
 rw [wBs_succ hk] at h2
 omega
set_option maxHeartbeats 8000000 in
theorem fewIff_spec (f : PFunc) (hf : wFunc f) : ACall prog E 12 [.agg (encF f)] [] (fun x _ => ∃ b : Bool, x = .bool b ∧ (b = true ↔ little f)) := by
 obtain ⟨hf1, hf2, hf3, hf4⟩ := hf
 have hl1 := hf1.lt
 have hl3 := hf3.lt
 refine zo func12 rfl (by decide) rfl<|zSr<|y7 (cs := _) rfl rfl rfl<|z2 (zAb rfl)<|z6<|za<|za<|yc (γ := Unit) [1] (fun u => [(27, .bool (few1 f))]) (fun u => []) (fun u => True) ?_ (fun _ _ h => h) ?_
 ·refine zRg<|z2 (zFF underlying26 rfl sizeOf22 rfl rfl)<|z2 (zLf isAgg22 rfl)<|z2 (zz underlying22 rfl)<|z2 (yv rfl rfl)<|z2 (zMb rfl)<|zl (s := 16) rfl (fun c1=>?_) (fun c1=>?_)
  ·refine z7 rfl rfl c1<|z7 rfl rfl c1<|z7 rfl rfl c1<|z7 rfl rfl c1<|z2 (zPt rfl c1 rfl)<|z2 (zMb rfl)<|z7 rfl rfl rfl<|z7 rfl rfl rfl<|z7 rfl rfl rfl<|z7 rfl rfl rfl<|z2 (zPt rfl rfl rfl)<|z6 ?_
   exact ⟨(), zR1, ⟨jb (by simp_all [few1] <;> grind), trivial⟩, zLe, trivial⟩
  ·refine z8 rfl rfl c1<|z2 (zFF underlying26 rfl sizeOf24 rfl rfl)<|z8 rfl rfl c1<|z2 (zLf isAgg24 rfl)<|z8 rfl rfl c1<|z2 (zz underlying24 rfl)<|z8 rfl rfl c1<|z2 (yv rfl rfl)<|z2 (zPf rfl c1 rfl)<|z2 (zMb rfl)<|zl (s := 22) rfl (fun c2=>?_) (fun c2=>?_)
   ·refine z7 rfl rfl c2<|z7 rfl rfl c2<|z7 rfl rfl c2<|z7 rfl rfl c2<|z2 (zPt rfl c2 rfl)<|z6 ?_
    exact ⟨(), zR1, ⟨jb (by simp_all [few1] <;> grind), trivial⟩, zLe, trivial⟩
   ·refine z8 rfl rfl c2<|z2 (zFF underlying26 rfl sizeOf23 rfl rfl)<|z8 rfl rfl c2<|z2 (zLf isAgg23 rfl)<|z8 rfl rfl c2<|z2 (zz underlying23 rfl)<|z8 rfl rfl c2<|z2 (yv rfl rfl)<|z2 (zPf rfl c2 rfl)<|z6 ?_
    exact ⟨(), zR1, ⟨jb (by simp_all [few1] <;> grind), trivial⟩, zLe, trivial⟩
 ·rintro _ _
  refine zr rfl (fun c1=>?_) (fun c1=>?_)
  ·refine zSr<|z2 (zAb rfl)<|z6<|zf<|zj (x := .bool _) rfl ?_
   exact ⟨_, rfl, fun h => (by cases h), fun hl => absurd hl (fun hl => by have h1 := hl.1; have h2 := hl.2.1; have h3 := hl.2.2.1; unfold few1 at c1; simp at c1; omega)⟩
  ·have hsz : f.vars.length ≤ 100 ∧ f.blocks.length ≤ 40 ∧ f.params.length ≤ 20 := by unfold few1 at c1; simp at c1; omega
   refine zc<|zSr<|z2 (zAi rfl)<|z6<|za<|zSr<|z2 (zFF underlying26 rfl sizeOf22 rfl rfl)<|z2 (zLf isAgg22 rfl)<|z2 (zz underlying22 rfl)<|z2 (zMi rfl)<|z6<|zh<|y6 (γ := Nat) [1, 29, 30] (fun k => [(31, .int .i64 k), (3, .int .i64 (wV (f.vars.take k)))]) (fun k => []) (fun k => k ≤ f.vars.length ∧ wV (f.vars.take k) ≤ 400 * k ∧ ∀ v ∈ f.vars.take k, v.name.size ≤ 400) (fun k => f.vars.length - k) 0 zR2 zLe (⟨qm _, Nat.le_refl _, by simp⟩) ?_
   rintro k ⟨hk, hw, hv⟩
   refine zSr<|z2 (y8 rfl rfl)<|z6<|za<|zp rfl (fun ck=>?_) (fun ck=>?_)
   ·have hk1 : k < f.vars.length := by omega
    have hs := wV_succ hk1
    refine zc<|za<|zh<|zSr<|z2 (q8 underlying22 sizeOf56 rfl rfl rfl (qj (by omega)))<|z2 (zk isAgg56 sizeOf56 rfl rfl)<|zq (cs := [.str ⟨#[]⟩, .int .i64 0]) zeroValue56 rfl rfl<|fun i5 => zm sizeOf56 rfl rfl rfl rfl rfl rfl .head rfl<|z6<|za<|zSr<|z2 (zu underlying56 rfl sizeOf9 (by decide) rfl rfl)<|z2 (zy (c := .str _) isAgg9 rfl ⟨_, .head⟩ rfl)<|z2 (Gv.lenT underlying9 rfl)<|z2 (yv rfl rfl)<|z6<|zp rfl (fun cn=>?_) (fun cn=>?_)
    ·refine zSr<|z2 (zAb rfl)<|z6<|zf<|zj (x := .bool _) rfl ?_
     exact ⟨_, rfl, fun h => (by cases h), fun hl => absurd hl (fun hl => by have h1 := hl.2.2.2.1 _ (qn hk1); omega)⟩
    ·refine zc<|zRg<|z2 (zMi rfl)<|z2 (zu underlying56 rfl sizeOf9 (by decide) rfl rfl)<|z2 (zy (c := .str _) isAgg9 rfl ⟨_, .head⟩ rfl)<|z2 (Gv.lenT underlying9 rfl)<|z2 (zAd rfl rfl)<|z2 (zAi rfl)<|z6<|zRg<|z2 (zAd rfl rfl)<|z2 (zMi rfl)<|z6 ?_
     exact ⟨k + 1, zR3, ⟨rfl, congrArg (AV.int .i64) (by rw [hs]; omega), trivial⟩, ⟨_, (.drop (.refl _)), rfl⟩, ⟨hk1, by omega, forall_take hk1 hv (by omega)⟩, by omega⟩
   ·obtain rfl : k = f.vars.length := by omega
    rw [qo] at hw hv
    rw [qo]
    refine y4<|za<|zSr<|z2 (zFF underlying26 rfl sizeOf24 rfl rfl)<|z2 (zLf isAgg24 rfl)<|z2 (zz underlying24 rfl)<|z2 (zMi rfl)<|z6<|zh<|y6 (γ := Nat) [46, 47] (fun k => [(48, .int .i64 k), (3, .int .i64 (wV f.vars + wBs (f.blocks.take k) : Nat))]) (fun k => []) (fun k => k ≤ f.blocks.length ∧ (0 < k → wV f.vars + wBs (f.blocks.take k) ≤ 4000) ∧ wBs (f.blocks.take k) ≤ 4000 ∧ ∀ b ∈ f.blocks.take k, littleB b) (fun k => f.blocks.length - k) 0 zR2 zLe (⟨qm _, by omega, by simp [wBs], by simp⟩) ?_
    rintro k ⟨hk, hw2, hw3, hb⟩
    refine zSr<|z2 (y8 rfl rfl)<|z6<|za<|zp rfl (fun ck=>?_) (fun ck=>?_)
    ·have hk1 : k < f.blocks.length := by omega
     obtain ⟨hb1, hb2, hb3, hb4⟩ := hf4 _ (qn hk1)
     have hs := wBs_succ hk1
     refine zc<|za<|zh<|zSr<|z2 (q8 underlying24 sizeOf66 rfl rfl rfl (qj (by omega)))<|z2 (zk isAgg66 sizeOf66 rfl rfl)<|zq (cs := [.str ⟨#[]⟩, .raw (.slice none 0 0), .raw (.slice none 0 0), .int .i64 0, .int .i64 0, .int .i64 0, .int .i64 0]) zeroValue66 rfl rfl<|fun i7 => zm sizeOf66 rfl rfl rfl rfl rfl rfl .head rfl<|z6<|za<|za<|yc (γ := Unit) [3, 7, 46, 47, 48] (fun u => [(67, .bool (few2 f.blocks[k]))]) (fun u => [(i7, .cells 66 (encBlk f.blocks[k]))]) (fun u => True) ?_ (fun _ _ h => h) ?_
     ·refine zRg<|z2 (zu underlying66 rfl sizeOf9 (by decide) rfl rfl)<|z2 (zy (c := .str _) isAgg9 rfl ⟨_, .head⟩ rfl)<|z2 (Gv.lenT underlying9 rfl)<|z2 (yv rfl rfl)<|z2 (zMb rfl)<|zl (s := 56) rfl (fun c3=>?_) (fun c3=>?_)
      ·refine z7 rfl rfl c3<|z7 rfl rfl c3<|z7 rfl rfl c3<|z7 rfl rfl c3<|z2 (zPt rfl c3 rfl)<|z2 (zMb rfl)<|z7 rfl rfl rfl<|z7 rfl rfl rfl<|z7 rfl rfl rfl<|z7 rfl rfl rfl<|z2 (zPt rfl rfl rfl)<|z6 ?_
       exact ⟨(), zR5, ⟨jb (by simp_all [few2] <;> grind), trivial⟩, zLe, trivial⟩
      ·refine z8 rfl rfl c3<|z2 (zu underlying66 rfl sizeOf59 (by decide) rfl rfl)<|z8 rfl rfl c3<|z2 (zy (c := .fro _ _) isAgg59 rfl ⟨_, .head⟩ rfl)<|z8 rfl rfl c3<|z2 (zz underlying59 rfl)<|z8 rfl rfl c3<|z2 (yv rfl rfl)<|z2 (zPf rfl c3 rfl)<|z2 (zMb rfl)<|zl (s := 62) rfl (fun c4=>?_) (fun c4=>?_)
       ·refine z7 rfl rfl c4<|z7 rfl rfl c4<|z7 rfl rfl c4<|z7 rfl rfl c4<|z2 (zPt rfl c4 rfl)<|z6 ?_
        exact ⟨(), zR5, ⟨jb (by simp_all [few2] <;> grind), trivial⟩, zLe, trivial⟩
       ·refine z8 rfl rfl c4<|z2 (zu underlying66 rfl sizeOf60 (by decide) rfl rfl)<|z8 rfl rfl c4<|z2 (zy (c := .fro _ _) isAgg60 rfl ⟨_, .head⟩ rfl)<|z8 rfl rfl c4<|z2 (zz underlying60 rfl)<|z8 rfl rfl c4<|z2 (yv rfl rfl)<|z2 (zPf rfl c4 rfl)<|z6 ?_
        exact ⟨(), zR5, ⟨jb (by simp_all [few2] <;> grind), trivial⟩, zLe, trivial⟩
     ·rintro _ _
      refine zr rfl (fun c2=>?_) (fun c2=>?_)
      ·refine zSr<|z2 (zAb rfl)<|z6<|zf<|zj (x := .bool _) rfl ?_
       exact ⟨_, rfl, fun h => (by cases h), fun hl => absurd hl (fun hl => by obtain ⟨h1, h2, h3, _⟩ := hl.2.2.2.2.1 _ (qn hk1); unfold few2 at c2; simp at c2; omega)⟩
      ·have hsb : f.blocks[k].name.size ≤ 400 ∧ f.blocks[k].phis.length ≤ 400 ∧ f.blocks[k].insts.length ≤ 400 := by unfold few2 at c2; simp at c2; omega
       refine zc<|zSr<|z2 (zMi rfl)<|z2 (zu underlying66 rfl sizeOf9 (by decide) rfl rfl)<|z2 (zy (c := .str _) isAgg9 rfl ⟨_, .head⟩ rfl)<|z2 (Gv.lenT underlying9 rfl)<|z2 (zu underlying66 rfl sizeOf59 (by decide) rfl rfl)<|z2 (zy (c := .fro _ _) isAgg59 rfl ⟨_, .head⟩ rfl)<|z2 (zz underlying59 rfl)<|z2 (zu underlying66 rfl sizeOf60 (by decide) rfl rfl)<|z2 (zy (c := .fro _ _) isAgg60 rfl ⟨_, .head⟩ rfl)<|z2 (zz underlying60 rfl)<|z2 (zAd rfl rfl)<|z2 (Gv.mul rfl rfl (by unfold I64; omega))<|z2 (zAd rfl rfl)<|z2 (zAd rfl rfl)<|z2 (zAi rfl)<|z6<|za<|zSr<|z2 (zu underlying66 rfl sizeOf59 (by decide) rfl rfl)<|z2 (zy (c := .fro _ _) isAgg59 rfl ⟨_, .head⟩ rfl)<|z2 (zz underlying59 rfl)<|z2 (zMi rfl)<|z6<|zh<|y6 (γ := Nat) [7, 46, 47, 48, 83, 84] (fun m => [(85, .int .i64 m), (3, .int .i64 (wV f.vars + wBs (f.blocks.take k) + (f.blocks[k].name.size + 10 * (f.blocks[k].phis.length + f.blocks[k].insts.length)) + wP (f.blocks[k].phis.take m) : Nat))]) (fun m => [(i7, .cells 66 (encBlk f.blocks[k]))]) (fun m => m ≤ f.blocks[k].phis.length ∧ wP (f.blocks[k].phis.take m) ≤ 800 * m ∧ ∀ p ∈ f.blocks[k].phis.take m, p.args.length ≤ 400 ∧ p.from_.length ≤ 400) (fun m => f.blocks[k].phis.length - m) 0 ⟨rfl, (congrArg (AV.int .i64) (by simp [wP] <;> omega)), trivial⟩ zLe (⟨qm _, by simp [wP], by simp⟩) ?_
       rintro m ⟨hm, hwp, hp⟩
       refine zSr<|z2 (y8 rfl rfl)<|z6<|za<|zp rfl (fun cm=>?_) (fun cm=>?_)
       ·have hm1 : m < f.blocks[k].phis.length := by omega
        obtain ⟨hq1, hq2⟩ := hb3 _ (qn hm1)
        have hl6 := hq1.lt
        have hl7 := hq2.lt
        have hs2 := wP_succ hm1
        refine zc<|za<|zh<|zSr<|z2 (q8 underlying59 sizeOf95 rfl rfl rfl (qj (by omega)))<|z2 (zk isAgg95 sizeOf95 rfl rfl)<|zq (cs := [.int .i64 0, .raw (.slice none 0 0), .raw (.slice none 0 0)]) zeroValue95 rfl rfl<|fun i9 => zm sizeOf95 rfl rfl rfl rfl rfl rfl .head rfl<|z6<|za<|za<|yc (γ := Unit) [3, 7, 9, 46, 47, 48, 83, 84, 85] (fun u => [(102, .bool (decide ((4000 : Int) < (wV f.vars + wBs (f.blocks.take k) + (f.blocks[k].name.size + 10 * (f.blocks[k].phis.length + f.blocks[k].insts.length)) + wP (f.blocks[k].phis.take m) : Nat)) || (decide ((400 : Int) < f.blocks[k].phis[m].args.length) || decide ((400 : Int) < f.blocks[k].phis[m].from_.length))))]) (fun u => [(i9, .cells 95 (encPhi f.blocks[k].phis[m])), (i7, .cells 66 (encBlk f.blocks[k]))]) (fun u => True) ?_ (fun _ _ h => h) ?_
        ·refine zRg<|z2 (zMi rfl)<|z2 (yv rfl rfl)<|z2 (zMb rfl)<|zl (s := 91) rfl (fun c5=>?_) (fun c5=>?_)
         ·refine z7 rfl rfl c5<|z7 rfl rfl c5<|z7 rfl rfl c5<|z7 rfl rfl c5<|z2 (zPt rfl c5 rfl)<|z2 (zMb rfl)<|z7 rfl rfl rfl<|z7 rfl rfl rfl<|z7 rfl rfl rfl<|z7 rfl rfl rfl<|z2 (zPt rfl rfl rfl)<|z6 ?_
          exact ⟨(), zR9, ⟨jb (by simp_all <;> grind), trivial⟩, zLe, trivial⟩
         ·refine z8 rfl rfl c5<|z2 (zu underlying95 rfl sizeOf23 (by decide) rfl rfl)<|z8 rfl rfl c5<|z2 (zy (c := .fro _ _) isAgg23 rfl ⟨_, .head⟩ rfl)<|z8 rfl rfl c5<|z2 (zz underlying23 rfl)<|z8 rfl rfl c5<|z2 (yv rfl rfl)<|z2 (zPf rfl c5 rfl)<|z2 (zMb rfl)<|zl (s := 97) rfl (fun c6=>?_) (fun c6=>?_)
          ·refine z7 rfl rfl c6<|z7 rfl rfl c6<|z7 rfl rfl c6<|z7 rfl rfl c6<|z2 (zPt rfl c6 rfl)<|z6 ?_
           exact ⟨(), zR9, ⟨jb (by simp_all <;> grind), trivial⟩, zLe, trivial⟩
          ·refine z8 rfl rfl c6<|z2 (zu underlying95 rfl sizeOf23 (by decide) rfl rfl)<|z8 rfl rfl c6<|z2 (zy (c := .fro _ _) isAgg23 rfl ⟨_, .head⟩ rfl)<|z8 rfl rfl c6<|z2 (zz underlying23 rfl)<|z8 rfl rfl c6<|z2 (yv rfl rfl)<|z2 (zPf rfl c6 rfl)<|z6 ?_
           exact ⟨(), zR9, ⟨jb (by simp_all <;> grind), trivial⟩, zLe, trivial⟩
        ·rintro _ _
         refine zr rfl (fun cp=>?_) (fun cp=>?_)
         ·refine zSr<|z2 (zAb rfl)<|z6<|zf<|zj (x := .bool _) rfl ?_
          exact ⟨_, rfl, fun h => (by cases h), fun hl => absurd hl (fun hl => by obtain ⟨_, _, _, h4, _⟩ := hl.2.2.2.2.1 _ (qn hk1); have h5 := h4 _ (qn hm1); have h9 := little_le hl hk1; have hwb : wB f.blocks[k] = f.blocks[k].name.size + 10 * (f.blocks[k].phis.length + f.blocks[k].insts.length) + wP f.blocks[k].phis + wX f.blocks[k].insts := rfl; have h10 := wP_take f.blocks[k].phis m; simp only [Bool.or_eq_true, w4] at cp; omega)⟩
         ·rcases Bool.or_eq_false_iff.1 cp with ⟨a1, a2⟩
          rcases Bool.or_eq_false_iff.1 a2 with ⟨a3, a4⟩
          have a3 := w3 a3
          have a4 := w3 a4
          refine zc<|zRg<|z2 (zMi rfl)<|z2 (zu underlying95 rfl sizeOf23 (by decide) rfl rfl)<|z2 (zy (c := .fro _ _) isAgg23 rfl ⟨_, .head⟩ rfl)<|z2 (zz underlying23 rfl)<|z2 (zu underlying95 rfl sizeOf23 (by decide) rfl rfl)<|z2 (zy (c := .fro _ _) isAgg23 rfl ⟨_, .head⟩ rfl)<|z2 (zz underlying23 rfl)<|z2 (zAd rfl rfl)<|z2 (zAd rfl rfl)<|z2 (zAi rfl)<|z6<|zRg<|z2 (zAd rfl rfl)<|z2 (zMi rfl)<|z6 ?_
          exact ⟨m + 1, zR6, ⟨rfl, congrArg (AV.int .i64) (by rw [hs2]; omega), trivial⟩, ⟨_, (.drop (.refl _)), rfl⟩, ⟨hm1, by omega, forall_take hm1 hp ⟨by omega, by omega⟩⟩, by omega⟩
       ·obtain rfl : m = f.blocks[k].phis.length := by omega
        rw [qo] at hwp hp
        rw [qo]
        refine y4<|za<|zSr<|z2 (zu underlying66 rfl sizeOf60 (by decide) rfl rfl)<|z2 (zy (c := .fro _ _) isAgg60 rfl ⟨_, .head⟩ rfl)<|z2 (zz underlying60 rfl)<|z2 (zMi rfl)<|z6<|zh<|y6 (γ := Nat) [46, 47, 48, 114, 115] (fun m => [(116, .int .i64 m), (3, .int .i64 (wV f.vars + wBs (f.blocks.take k) + (f.blocks[k].name.size + 10 * (f.blocks[k].phis.length + f.blocks[k].insts.length)) + wP f.blocks[k].phis + wX (f.blocks[k].insts.take m) : Nat))]) (fun m => [(i7, .cells 66 (encBlk f.blocks[k]))]) (fun m => m ≤ f.blocks[k].insts.length ∧ wX (f.blocks[k].insts.take m) ≤ 400 * m ∧ ∀ p ∈ f.blocks[k].insts.take m, p.args.length ≤ 400) (fun m => f.blocks[k].insts.length - m) 0 ⟨rfl, (congrArg (AV.int .i64) (by simp [wX] <;> omega)), trivial⟩ zLe (⟨qm _, by simp [wX], by simp⟩) ?_
        rintro m ⟨hm, hwx, hx⟩
        refine zSr<|z2 (y8 rfl rfl)<|z6<|za<|zp rfl (fun cm=>?_) (fun cm=>?_)
        ·have hm1 : m < f.blocks[k].insts.length := by omega
         have hq1 := hb4 _ (qn hm1)
         have hl6 := hq1.lt
         have hs2 := wX_succ hm1
         refine zc<|za<|zh<|zSr<|z2 (q8 underlying60 sizeOf33 rfl rfl rfl (qj (by omega)))<|z2 (zk isAgg33 sizeOf33 rfl rfl)<|zq (cs := [.int .i64 0, .int .i64 0, .raw (.slice none 0 0), .int .i64 0]) zeroValue33 rfl rfl<|fun i11 => zm sizeOf33 rfl rfl rfl rfl rfl rfl .head rfl<|z6<|za<|za<|yc (γ := Unit) [3, 11, 46, 47, 48, 114, 115, 116] (fun u => [(127, .bool (decide ((4000 : Int) < (wV f.vars + wBs (f.blocks.take k) + (f.blocks[k].name.size + 10 * (f.blocks[k].phis.length + f.blocks[k].insts.length)) + wP f.blocks[k].phis + wX (f.blocks[k].insts.take m) : Nat)) || decide ((400 : Int) < f.blocks[k].insts[m].args.length)))]) (fun u => [(i11, .cells 33 (encInst f.blocks[k].insts[m])), (i7, .cells 66 (encBlk f.blocks[k]))]) (fun u => True) ?_ (fun _ _ h => h) ?_
         ·refine zRg<|z2 (zMi rfl)<|z2 (yv rfl rfl)<|z2 (zMb rfl)<|zl (s := 122) rfl (fun c7=>?_) (fun c7=>?_)
          ·refine z7 rfl rfl c7<|z7 rfl rfl c7<|z7 rfl rfl c7<|z7 rfl rfl c7<|z2 (zPt rfl c7 rfl)<|z6 ?_
           exact ⟨(), zR8, ⟨jb (by simp_all <;> grind), trivial⟩, zLe, trivial⟩
          ·refine z8 rfl rfl c7<|z2 (zu underlying33 rfl sizeOf23 (by decide) rfl rfl)<|z8 rfl rfl c7<|z2 (zy (c := .fro _ _) isAgg23 rfl ⟨_, .head⟩ rfl)<|z8 rfl rfl c7<|z2 (zz underlying23 rfl)<|z8 rfl rfl c7<|z2 (yv rfl rfl)<|z2 (zPf rfl c7 rfl)<|z6 ?_
           exact ⟨(), zR8, ⟨jb (by simp_all <;> grind), trivial⟩, zLe, trivial⟩
         ·rintro _ _
          refine zr rfl (fun cp=>?_) (fun cp=>?_)
          ·refine zSr<|z2 (zAb rfl)<|z6<|zf<|zj (x := .bool _) rfl ?_
           exact ⟨_, rfl, fun h => (by cases h), fun hl => absurd hl (fun hl => by obtain ⟨_, _, _, _, h4⟩ := hl.2.2.2.2.1 _ (qn hk1); have h5 := h4 _ (qn hm1); have h9 := little_le hl hk1; have hwb : wB f.blocks[k] = f.blocks[k].name.size + 10 * (f.blocks[k].phis.length + f.blocks[k].insts.length) + wP f.blocks[k].phis + wX f.blocks[k].insts := rfl; have h10 := wX_take f.blocks[k].insts m; simp only [Bool.or_eq_true, w4] at cp; omega)⟩
          ·rcases Bool.or_eq_false_iff.1 cp with ⟨a1, a2⟩
           have a2 := w3 a2
           refine zc<|zRg<|z2 (zMi rfl)<|z2 (zu underlying33 rfl sizeOf23 (by decide) rfl rfl)<|z2 (zy (c := .fro _ _) isAgg23 rfl ⟨_, .head⟩ rfl)<|z2 (zz underlying23 rfl)<|z2 (zAd rfl rfl)<|z2 (zAi rfl)<|z6<|zRg<|z2 (zAd rfl rfl)<|z2 (zMi rfl)<|z6 ?_
           exact ⟨m + 1, zR5, ⟨rfl, congrArg (AV.int .i64) (by rw [hs2]; omega), trivial⟩, ⟨_, (.drop (.refl _)), rfl⟩, ⟨hm1, by omega, forall_take hm1 hx (by omega)⟩, by omega⟩
        ·obtain rfl : m = f.blocks[k].insts.length := by omega
         rw [qo] at hwx hx
         rw [qo]
         refine y4<|zSr<|z2 (zMi rfl)<|z2 (yv rfl rfl)<|z6<|zp rfl (fun cz=>?_) (fun cz=>?_)
         ·refine zSr<|z2 (zAb rfl)<|z6<|zf<|zj (x := .bool _) rfl ?_
          exact ⟨_, rfl, fun h => (by cases h), fun hl => absurd hl (fun hl => by have h9 := little_le hl hk1; have hwb : wB f.blocks[k] = f.blocks[k].name.size + 10 * (f.blocks[k].phis.length + f.blocks[k].insts.length) + wP f.blocks[k].phis + wX f.blocks[k].insts := rfl; omega)⟩
         ·have hwb : wB f.blocks[k] = f.blocks[k].name.size + 10 * (f.blocks[k].phis.length + f.blocks[k].insts.length) + wP f.blocks[k].phis + wX f.blocks[k].insts := rfl
          refine zc<|zRg<|z2 (zAd rfl rfl)<|z2 (zMi rfl)<|z6 ?_
          exact ⟨k + 1, zR2, ⟨rfl, congrArg (AV.int .i64) (by rw [hs]; omega), trivial⟩, ⟨_, (.drop (.refl _)), rfl⟩, ⟨hk1, by omega, by omega, forall_take hk1 hb ⟨hsb.1, hsb.2.1, hsb.2.2, hp, hx⟩⟩, by omega⟩
    ·obtain rfl : k = f.blocks.length := by omega
     rw [qo] at hw2 hw3 hb
     refine y4<|zSr<|z2 (zAb rfl)<|z6<|zf<|zj (x := .bool _) rfl ?_
     exact ⟨_, rfl, fun _ => ⟨hsz.1, hsz.2.1, hsz.2.2, hv, hb, fun hne => hw2 (List.length_pos_iff.2 hne)⟩, fun _ => rfl⟩
theorem lawShaped2_spec (f : PFunc) (hf : okFunc f) (hn : okNames f) (hL : Letters E) : AFun prog E 119 [.agg (encF f)] (.bool (decide (ShapedP f))) := by
 refine zo func119 rfl (by decide) rfl<|zSr<|y7 (cs := _) rfl rfl rfl<|z2 (zAb rfl)<|z6<|zSr<|z2 (zk isAgg26 sizeOf26 rfl rfl)<|ze (refShaped_spec _ (by assumption) (by assumption) hL) rfl<|z2 (zAb rfl)<|z6<|zf<|zj (x := .bool _) rfl ?_
 rfl
noncomputable def fewB (f : PFunc) : Bool := @decide (little f) (Classical.propDecidable _)
theorem fewB_iff (f : PFunc) : fewB f = true ↔ little f := by unfold fewB; exact @decide_eq_true_iff _ (Classical.propDecidable _)
theorem fewT_spec (f : PFunc) (hf : wFunc f) : AFun prog E 12 [.agg (encF f)] (.bool (fewB f)) :=
 (fewIff_spec f hf).mono fun x O' ⟨b, e, h⟩ => by
  rw [e]
  congr 1
  rw [qs, h, fewB_iff]
theorem lawTyped8_spec (f : PFunc) (hf : small f) (hL : Letters E) : AFun prog E 75 [.agg (encF f)] (.bool (typedB f)) := by
 have hs := lawShaped2_spec (E := E) f hf.ok hf.names hL
 refine zo func75 rfl (by decide) rfl<|zSr<|y7 (cs := _) rfl rfl rfl<|z2 (zAb rfl)<|z6<|zSr<|z2 (zk isAgg26 sizeOf26 rfl rfl)<|ze (hs) rfl ?_
 by_cases g4 : ShapedP f
 ·refine z2 (zMb rfl)<|z8 rfl rfl (qu g4)<|z2 (zk isAgg26 sizeOf26 rfl rfl)<|z8 rfl rfl (qu g4)<|ze (refTyped_spec f hf g4) rfl<|z2 (zPt rfl (qu g4) rfl)<|z2 (zAb rfl)<|z6<|zf<|zj (x := .bool _) rfl ?_
  exact jb (by unfold typedB; rw [shapedB_eq, qu g4]; rfl)
 ·refine z2 (zMb rfl)<|z7 rfl rfl (qv g4)<|z7 rfl rfl (qv g4)<|z2 (zPf rfl (qv g4) rfl)<|z2 (zAb rfl)<|z6<|zf<|zj (x := .bool _) rfl ?_
  exact jb (by unfold typedB; rw [shapedB_eq, qv g4]; rfl)
theorem lawTyped_spec (f : PFunc) (hw : wFunc f) (hL : Letters E) : AFun prog E 37 [.agg (encF f)] (.bool (fewB f && typedB f)) := by
 refine zo func37 rfl (by decide) rfl<|zSr<|y7 (cs := _) rfl rfl rfl<|z2 (zAb rfl)<|z6<|zSr<|z2 (zk isAgg26 sizeOf26 rfl rfl)<|ze (fewT_spec f hw) rfl<|z2 (zMb rfl)<|zl (s := 5) rfl (fun g=>?_) (fun g=>?_)
 ·refine z8 rfl rfl g<|z2 (zk isAgg26 sizeOf26 rfl rfl)<|z8 rfl rfl g<|ze (lawTyped8_spec f ((fewB_iff f).1 g).small hL) rfl<|z2 (zPt rfl g rfl)<|z2 (zAb rfl)<|z6<|zf<|zj (x := .bool _) rfl ?_
  exact jb (by rw [g]; rfl)
 ·refine z7 rfl rfl g<|z7 rfl rfl g<|z2 (zPf rfl g rfl)<|z2 (zAb rfl)<|z6<|zf<|zj (x := .bool _) rfl ?_
  exact jb (by rw [g]; rfl)
noncomputable def lawSing (f : PFunc) : Bool := fewB f && typedB f && singB f
theorem and3 {a b : Bool} (h : (a && b) = true) : a = true ∧ b = true := by simpa using h
theorem singR_typed {f : PFunc} (h : typedB f = true) : singR f = singB f :=
 singR_eq (typedB_ends h) fun b hb p hp c hc => by
  have h1 := ((typedB_shaped h).2.2.2.2.2 b hb).1 p hp
  have h2 := List.all_eq_true.1 h1.2.2.2.2 c hc
  simpa [hasB] using h2
theorem lawSingle_spec (f : PFunc) (hw : wFunc f) (hL : Letters E) : AFun prog E 24 [.agg (encF f)] (.bool (lawSing f)) := by
 refine zo func24 rfl (by decide) rfl<|zSr<|y7 (cs := _) rfl rfl rfl<|z2 (zAb rfl)<|z6<|zSr<|z2 (zk isAgg26 sizeOf26 rfl rfl)<|ze (lawTyped_spec f hw hL) rfl<|z2 (zMb rfl)<|zl (s := 5) rfl (fun g=>?_) (fun g=>?_)
 ·refine z8 rfl rfl g<|z2 (zk isAgg26 sizeOf26 rfl rfl)<|z8 rfl rfl g<|ze (refSingle_spec f (typedB_ends (and3 g).2) ((fewB_iff f).1 (and3 g).1).small (typedB_shaped (and3 g).2)) rfl<|z2 (zPt rfl g rfl)<|z2 (zAb rfl)<|z6<|zf<|zj (x := .bool _) rfl ?_
  exact jb (by unfold lawSing; rw [g, singR_typed (and3 g).2]; rfl)
 ·refine z7 rfl rfl g<|z7 rfl rfl g<|z2 (zPf rfl g rfl)<|z2 (zAb rfl)<|z6<|zf<|zj (x := .bool _) rfl ?_
  exact jb (by unfold lawSing; rw [g]; rfl)
end Go.Proofs.YtjnpcfpecilejaaGreatDoor
namespace Go.Proofs.YtjnpcfpecilejaaGreatDoor
open Go.Proofs.Tryz
open Go.Proofs Go.Lib Go.Shelf Go.RowKit
theorem pl125 : Places prog 125 #[(0, 3), (3, 1), (4, 1), (5, 1)] [.raw (.slice none 0 0), .raw (.slice none 0 0), .raw (.slice none 0 0), .raw (.slice none 0 0), .raw (.slice none 0 0), .raw (.slice none 0 0)] := ⟨_, _, underlying125, zeroValue125, fun w => by kernel_rfl, rfl⟩
variable {E : World}
set_option maxRecDepth 20000
theorem matching_spec (op : Int) : AFun prog E 112 [.int .i64 op] (.int .i64 (matchQ op)) := by
 refine zo func112 rfl (by decide) rfl<|zSr<|z2 (zAi rfl)<|z6<|za<|zSr<|z2 (zMi rfl)<|z6<|zh<|za<|zSr<|z2 (y3 rfl rfl)<|z2 (zAb rfl)<|z6<|yc (γ := Bool) [0] (fun u => [(4, .bool u)]) (fun u => []) (fun u => u = decide (op = 2 ∨ op = 3 ∨ op = 4)) ?_ (fun _ _ h => h) ?_
 ·refine zr rfl (fun c1=>?_) (fun c1=>?_)
  ·refine zc ?_
   exact ⟨_, zR1, zR1, zLe, by simp_all⟩
  ·refine zSr<|z2 (y3 rfl rfl)<|z2 (zAb rfl)<|z6<|zr rfl (fun c2=>?_) (fun c2=>?_)
   ·refine zc ?_
    exact ⟨_, zR1, zR1, zLe, by simp_all⟩
   ·refine zRg<|z2 (y3 rfl rfl)<|z2 (zAb rfl)<|z6 ?_
    exact ⟨_, zR1, zR1, zLe, by simp_all⟩
 ·rintro u hu
  subst hu
  refine zp rfl (fun c=>?_) (fun c=>?_)
  ·refine zSr<|z2 (zMi rfl)<|z2 (Gv.addW rfl rfl)<|z2 (Gv.subW rfl rfl)<|z2 (zAi rfl)<|z6<|zf<|zj (x := .int _ _) rfl ?_
   rw [matchQ, if_pos c, wrap_fit (z := 21 + op) (by unfold is64; omega), wrap_fit (by unfold is64; omega)]; congr 1; omega
  ·refine zc<|zSr<|z2 (zAi rfl)<|z6<|zf<|zj (x := .int _ _) rfl ?_
   rw [matchQ, if_neg c]
end Go.Proofs.YtjnpcfpecilejaaGreatDoor
namespace Go.Proofs.YtjnpcfpecilejaaGreatDoor
open Go.Proofs.Tryz
open Go.Proofs Go.Lib Go.Shelf Go.RowKit
variable {E : World}
set_option maxRecDepth 20000
theorem takes_10 : takesL 10 = [1] := by decide
theorem takes_11 : takesL 11 = [1, 1] := by decide
theorem typed_bool {f : PFunc} (h : typedB f = true) : ∀ b ∈ f.blocks, ∀ x ∈ b.insts, x.op = 10 ∨ x.op = 11 → ∀ v ∈ x.args, tyV f v = 1 := by
 intro b hb x hx hop v hv
 unfold typedB at h
 rw [qw] at h
 have h1 := List.all_eq_true.1 h.2 b hb
 unfold blkT at h1
 simp only [qw] at h1
 have h2 := List.all_eq_true.1 h1.1.2 x hx
 unfold instT at h2
 rw [if_neg (by omega)] at h2
 rw [qw, w4] at h2
 have h3 : kindV f v ∈ takesL x.op := by rw [← h2.1]; exact List.mem_map_of_mem hv
 show kindV f v = 1
 rcases hop with e | e <;> rw [e] at h3
 ·rw [takes_10] at h3; simpa using h3
 ·rw [takes_11] at h3; simpa using h3
theorem sing_once {f : PFunc} (h : singB f = true) : OnceP f := (onceB_iff f).1 (by unfold singB at h; simp only [qw] at h; exact h.2.2.1)
theorem ruleF_of {f : PFunc} (hf : small f) (h : (typedB f && singB f) = true) : RuleF f := ⟨hf, typedB_shaped (and3 h).1, sing_once (and3 h).2, typed_bool (and3 h).1⟩
theorem notdecT {p : Prop} [Decidable p] (h : (!decide p) = true) : ¬ p := fun hp => by rw [qu hp] at h; cases h
theorem notdecF {p : Prop} [Decidable p] (h : (!decide p) = false) : p := Classical.byContradiction fun hp => by rw [qv hp] at h; cases h
theorem lv_ok {l : List Rng} (h : ∀ r ∈ l, ok64 r) (u : Int) : ok64 (lv l u) := by
 unfold lv
 cases hu : l[u.toNat]? with
 | none => exact noR_ok
 | some r => exact h r (List.mem_of_getElem? hu)
end Go.Proofs.YtjnpcfpecilejaaGreatDoor
namespace Go.Proofs.YtjnpcfpecilejaaGreatDoor
open Go.Proofs.Tryz
open Go.Proofs Go.Lib Go.Shelf Go.RowKit
variable {E : World}
set_option maxRecDepth 20000
theorem tRight_spec (f : PFunc) (hf : small f) (hL : Letters E) (l : List Rng) (hl : l.length ≤ 9223372036854775807) : AFun prog E 65 [.agg (encF f), .fro 2 (l.map encZ)] (.bool ((typedB f && singB f) && decide (l.length = f.vars.length))) := by
 have hvn := hf.1
 have hR := SingRight_spec (E := E) f hf hL
 refine zo func65 rfl (by decide) rfl<|zSr<|y7 (cs := _) rfl rfl rfl<|z2 (zAb rfl)<|z6<|zSr<|z2 (zk isAgg26 sizeOf26 rfl rfl)<|ze (hR) rfl<|z2 (y3 rfl rfl)<|z2 (zMb rfl)<|zl (s := 8) rfl (fun c=>?_) (fun c=>?_)
 ·have h : (typedB f && singB f) = true := by cases h : (typedB f && singB f); rw [h] at c; simp at c; rfl
  refine z8 rfl rfl c<|z2 (zMf rfl)<|z8 rfl rfl c<|z2 (zz underlying41 rfl)<|z8 rfl rfl c<|z2 (zFF underlying26 rfl sizeOf22 rfl rfl)<|z8 rfl rfl c<|z2 (zLf isAgg22 rfl)<|z8 rfl rfl c<|z2 (zz underlying22 rfl)<|z8 rfl rfl c<|z2 (y3 rfl rfl)<|z2 (zPt rfl c rfl)<|z2 (zAb rfl)<|z6<|zf<|zj (x := .bool _) rfl ?_
  exact jb (by rw [h, Bool.true_and]; exact decide_eq_decide.2 (by omega))
 ·have h : (typedB f && singB f) = false := by cases h : (typedB f && singB f); rfl; rw [h] at c; simp at c
  refine z7 rfl rfl c<|z7 rfl rfl c<|z7 rfl rfl c<|z7 rfl rfl c<|z7 rfl rfl c<|z7 rfl rfl c<|z2 (zPf rfl c rfl)<|z2 (zAb rfl)<|z6<|zf<|zj (x := .bool _) rfl ?_
  exact jb (by rw [h]; rfl)
theorem lv_nat {l : List Rng} {k : Nat} (h : k < l.length) : l[k]? = some (lv l (k : Int)) := by unfold lv; rw [show (k : Int).toNat = k from rfl, qj h]; rfl
theorem ref_spec (r : Rng) : AFun prog E 64 [.agg (encZ r)] (.agg (encZ r)) := by
 refine zo func64 rfl (by decide) rfl<|zSr<|y7 (cs := _) rfl rfl rfl<|zq (cs := [.int .i64 0, .int .i64 0]) zeroValue75 rfl rfl<|fun i2 => z6<|zSr<|z2 (zk isAgg74 sizeOf74 rfl rfl)<|zm sizeOf75 rfl rfl rfl rfl rfl rfl .head rfl<|z6<|zf<|q0 rfl ⟨_, .head⟩ isAgg75 sizeOf75 rfl ?_
 rfl
theorem refs_spec (l : List Rng) (hl : l.length ≤ 100000) : AFun prog E 26 [.fro 2 (l.map encZ)] (.fro 2 (l.map encZ)) := by
 refine zo func26 rfl (by decide) rfl<|zSr<|z2 (zAr rfl)<|z6<|zSr<|z2 (zAr rfl)<|z6<|za<|zSr<|z2 (zMf rfl)<|z2 (zz underlying41 rfl)<|z2 (zMi rfl)<|z6<|adopt_wp (t := 3) (k := 2) (T := 75) rfl<|fun i3 => zh<|y6 (γ := Nat × Nat) [6, 7] (fun g => [(8, .int .i64 g.1), (3, .own g.2 g.1)]) (fun g => [(g.2, .grow 2 75 (lC (l.take g.1)))]) (fun g => g.1 ≤ l.length) (fun g => l.length - g.1) (0, i3) zR2 zLe (qm _) ?_
 rintro ⟨k, io⟩ hk
 try dsimp only at *
 refine zSr<|z2 (y8 rfl rfl)<|z6<|za<|zp rfl (fun ck=>?_) (fun ck=>?_)
 ·have hk2 : k < l.length := by simp at ck; omega
  refine zc<|za<|zh<|zSr<|z2 (zIM k underlying41 sizeOf74 rfl rfl rfl (lv_nat hk2))<|z2 (zk isAgg74 sizeOf74 rfl rfl)<|zq (cs := [.int .i64 0, .int .i64 0]) zeroValue74 rfl rfl<|fun i5 => zm sizeOf74 rfl rfl rfl rfl rfl rfl .head rfl<|zd (y9 (t := 5) rfl .head)<|z6<|zRg<|z2 (zMo rfl)<|z2 (zk isAgg74 sizeOf74 rfl rfl)<|ze (ref_spec _) rfl<|zw (rows := [[_, _]]) ps47_1 rfl rfl rfl rfl rfl<|yl (k := 2) underlying47 type75 rfl rfl rfl rfl rfl (fun _ => .head) (by rw [lC_len, List.length_take]; omega) (by decide) rfl (by show (_ + 1) * 16 ≤ _; omega) (by show _ + 1 ≤ _; omega)<|fun i16 => z2 (zAo rfl)<|z6<|zRg<|z2 (zAd rfl rfl)<|z2 (zMi rfl)<|z6 ?_
  exact ⟨(k + 1, i16), zR2, zR2, ⟨_, (.refl _), by rw [qk hk2, ← lC_push, show l[k] = lv l k by have := lv_nat hk2; rw [qj hk2] at this; exact Option.some.inj this]; rfl⟩, hk2, by dsimp only; omega⟩
 ·have hkn : k = l.length := by simp at ck; omega
  subst hkn
  rw [qo]
  refine y4<|yf (GStep.knowR (t := 3) rfl .head rfl)<|zSr<|z2 (zMf rfl)<|z2 (zAf rfl)<|z6<|zf<|zj (x := .fro _ _) rfl ?_
  rfl
end Go.Proofs.YtjnpcfpecilejaaGreatDoor
namespace Go.Proofs.YtjnpcfpecilejaaGreatDoor
open Go.Proofs.Tryz
open Go.Proofs
def Imp (x y : AV) : Prop := ∀ I v, RepV I x v → RepV I y v
def ImpL (xs ys : List AV) : Prop := ∀ I vs, RepL I xs vs → RepL I ys vs
theorem Imp.refl (x : AV) : Imp x x := fun _ _ h => h
theorem Imp.nil (k : Nat) : Imp (.raw (.slice none 0 0)) (.fro k []) := fun _ _ h => ⟨none, 0, 0, h, rfl, Nat.le_refl _, fun _ => rfl, trivial⟩
theorem ImpL.nil : ImpL [] [] := fun _ _ h => h
theorem ImpL.cons {x y : AV} {xs ys : List AV} (h : Imp x y) (hs : ImpL xs ys) : ImpL (x :: xs) (y :: ys) := fun I _ ⟨v, us, e, h1, h2⟩ => ⟨v, us, e, h I v h1, hs I us h2⟩
theorem Imp.agg {xs ys : List AV} (h : ImpL xs ys) : Imp (.agg xs) (.agg ys) := fun I _ ⟨vs, e, h1⟩ => ⟨vs, e, h I vs h1⟩
end Go.Proofs.YtjnpcfpecilejaaGreatDoor
namespace Go.Proofs.YtjnpcfpecilejaaGreatDoor
open Go.Proofs.Tryz
open Go.Proofs Go.Lib Go.Shelf Go.RowKit
theorem pl142 : Places prog 142 #[(0, 1), (1, 1)] [.bool false, .int .i64 0] := ⟨_, _, underlying142, zeroValue142, fun w => by kernel_rfl, rfl⟩
variable {E : World}
set_option maxRecDepth 20000
theorem ACall.now2 {P : Program} {E : World} {f : FuncId} {ars : List AV} {O O0 : OL} {x : AV} (h : ACall P E f ars O fun y O' => y = x ∧ Left O' O0) : ACall P E f ars O fun y O' => y = x ∧ O' = O0 :=
 (ACall.exact (γ := Unit) (x := fun _ => x) (M := fun _ => O0) (p := fun _ => True) (h.mono fun _ _ h => ⟨(), h.1, h.2, trivial⟩)).mono fun _ _ ⟨_, h1, h2, _⟩ => ⟨h1, h2⟩
theorem Left.d0 {O : OL} : Left O O := ⟨_, .refl _, rfl⟩
theorem Imp.eq {x y : AV} (h : x = y) : Imp x y := h ▸ Imp.refl x
def intoA (rows : List (List Ejk)) : AV := .fro 1 (rows.map fun r => [.fro 3 (r.map encE)])
def sideC (up : Bool) (s : Int) (I : AV) (bp bs : Nat) (low : Bnd) (D : AV) : List AV := [.bool up, .int .i64 s, I, mref bp, mref bs, .bool low.1, .int .i64 low.2, D]
theorem aEnd (b : Bool) : AFun prog E 240 [.bool b] (.int .i64 (if b = true then m64 else M64)) := by
 refine zo func240 rfl (by decide) rfl<|zSr<|z2 (zAi rfl)<|z6<|za<|zSr<|z2 (zMb rfl)<|z6<|zr rfl (fun c1=>?_) (fun c1=>?_)
 ·refine zSr<|z2 (zAi rfl)<|z6<|zf<|zj (x := .int _ _) rfl ?_
  simp_all [m64, M64]
 ·refine zc<|zSr<|z2 (zAi rfl)<|z6<|zf<|zj (x := .int _ _) rfl ?_
  simp_all [m64, M64]
theorem aSat {x y : Int} (hx : is64 x) (hy : is64 y) : AFun prog E 224 [.int .i64 x, .int .i64 y] (.int .i64 (if fit3 0 x y then x + y else near3 0 x y)) := by
 refine zo func224 rfl (by decide) rfl<|zSr<|z2 (zAi rfl)<|z6<|zSr<|z2 (zMi rfl)<|z2 (zMi rfl)<|ze (aAdd hx hy) rfl<|z2 (zMu rfl)<|z2 (zXi rfl rfl)<|z2 (zXb rfl rfl)<|z2 (zAi rfl)<|z2 (zAb rfl)<|z6<|za<|zSr<|z2 (zMb rfl)<|z2 (yd rfl)<|z6<|zr rfl (fun c=>?_) (fun c=>?_)
 ·refine zSr<|z2 (zMi rfl)<|z2 (y8 rfl rfl)<|ze (aEnd _) rfl<|z2 (zAi rfl)<|z6<|zf<|zj (x := .int _ _) rfl ?_
  rw [if_neg (notdecT c)]; unfold near3; simp
 ·have h := notdecF c
  refine zc<|zSr<|z2 (zMi rfl)<|z2 (zAi rfl)<|z6<|zf<|zj (x := .int _ _) rfl ?_
  rw [if_pos h, show IntKind.i64.wrap (x + y) = x + y from wrap_fit h]
theorem tCov_spec (up : Bool) (s : Int) (I : AV) (bp bs : Nat) (low : Bnd) (D : AV) (a b : Bnd) : AFun prog E 187 [.pf (sideC up s I bp bs low D), .agg (encBd a), .agg (encBd b)] (.bool (covB up a b)) := by
 unfold sideC
 refine zo func187 rfl (by decide) rfl<|zSr<|y7 (cs := _) rfl rfl rfl<|y7 (cs := _) rfl rfl rfl<|z2 (zAb rfl)<|z6<|za<|zSr<|z2 (zMg rfl)<|z2 (yq rfl)<|z2 (zFF underlying146 rfl sizeOf4 rfl rfl)<|z2 (yu (c := .bool _) isAgg4 rfl)<|z6<|zr rfl (fun c2=>?_) (fun c2=>?_)
 ·refine zSr<|z2 (zFF underlying142 rfl sizeOf4 rfl rfl)<|z2 (yu (c := .bool _) isAgg4 rfl)<|z2 (zMb rfl)<|zl (s := 13) rfl (fun c3=>?_) (fun c3=>?_)
  ·refine z8 rfl rfl c3<|z2 (zFF underlying142 rfl sizeOf2 rfl rfl)<|z8 rfl rfl c3<|z2 (zLi isAgg2 rfl)<|z8 rfl rfl c3<|z2 (zFF underlying142 rfl sizeOf2 rfl rfl)<|z8 rfl rfl c3<|z2 (zLi isAgg2 rfl)<|z8 rfl rfl c3<|z2 (Gv.leq rfl rfl)<|z2 (zPt rfl c3 rfl)<|z2 (zAb rfl)<|z6<|zf<|zj (x := .bool _) rfl ?_
   exact jb (by unfold covB; simp_all)
  ·refine z7 rfl rfl c3<|z7 rfl rfl c3<|z7 rfl rfl c3<|z7 rfl rfl c3<|z7 rfl rfl c3<|z2 (zPf rfl c3 rfl)<|z2 (zAb rfl)<|z6<|zf<|zj (x := .bool _) rfl ?_
   exact jb (by unfold covB; simp_all)
 ·refine zc<|zSr<|z2 (zFF underlying142 rfl sizeOf4 rfl rfl)<|z2 (yu (c := .bool _) isAgg4 rfl)<|z2 (zMb rfl)<|zl (s := 22) rfl (fun c4=>?_) (fun c4=>?_)
  ·refine z8 rfl rfl c4<|z2 (zFF underlying142 rfl sizeOf2 rfl rfl)<|z8 rfl rfl c4<|z2 (zLi isAgg2 rfl)<|z8 rfl rfl c4<|z2 (zFF underlying142 rfl sizeOf2 rfl rfl)<|z8 rfl rfl c4<|z2 (zLi isAgg2 rfl)<|z8 rfl rfl c4<|z2 (q9 rfl rfl)<|z2 (zPt rfl c4 rfl)<|z2 (zAb rfl)<|z6<|zf<|zj (x := .bool _) rfl ?_
   exact jb (by unfold covB; simp_all)
  ·refine z7 rfl rfl c4<|z7 rfl rfl c4<|z7 rfl rfl c4<|z7 rfl rfl c4<|z7 rfl rfl c4<|z2 (zPf rfl c4 rfl)<|z2 (zAb rfl)<|z6<|zf<|zj (x := .bool _) rfl ?_
   exact jb (by unfold covB; simp_all)
theorem tSum_spec (up : Bool) (s : Int) (I : AV) (bp bs : Nat) (low : Bnd) (D : AV) (a : Bnd) (n : Int) (ha : is64 a.2) (hn : is64 n) : AFun prog E 189 [.pf (sideC up s I bp bs low D), .agg (encBd a), .int .i64 n] (.agg (encBd (sumBd up a n))) := by
 have hs := aSat (E := E) ha hn
 unfold sideC
 refine zo func189 rfl (by decide) rfl<|zSr<|y7 (cs := _) rfl rfl rfl<|zq (cs := [.bool false, .int .i64 0]) zeroValue142 rfl rfl<|fun i6 => z6<|zSr<|z2 (zFF underlying142 rfl sizeOf2 rfl rfl)<|z2 (zLi isAgg2 rfl)<|z2 (zMi rfl)<|ze (aAdd ha hn) rfl<|z2 (zMu rfl)<|z2 (zXi rfl rfl)<|z2 (zXb rfl rfl)<|z2 (zAi rfl)<|z2 (zAb rfl)<|z6<|za<|zSr<|z2 (zMb rfl)<|z2 (yd rfl)<|z6<|zr rfl (fun c=>?_) (fun c=>?_)
 ·have hf : ¬ fit3 0 a.2 n := notdecT c
  rw [if_neg hf] at hs
  rw [show sumBd up a n = (a.1 && (decide (0 < n) != up), near3 0 a.2 n) by unfold sumBd; rw [if_neg hf]]
  refine za<|y1 (fun j => Nat.beq j 16) (by kernel_rfl) rfl (zn (.rest _))<|zTk 0 rfl (zFF underlying142 rfl sizeOf4 rfl rfl)<|zTk 1 rfl (yu (c := .bool _) isAgg4 rfl)<|zTk 2 rfl (zMb rfl)<|AAny.case (s := 20) rfl (fun ca=>?_) (fun ca=>?_)
  ·refine zTt 3 rfl rfl rfl ca (zMi rfl)<|zTt 4 rfl rfl rfl ca (yv rfl rfl)<|zTt 5 rfl rfl rfl ca (zMg rfl)<|zTt 6 rfl rfl rfl ca (yq rfl)<|zTt 7 rfl rfl rfl ca (zFF underlying146 rfl sizeOf4 rfl rfl)<|zTt 8 rfl rfl rfl ca (yu (c := .bool _) isAgg4 rfl)<|zTt 9 rfl rfl rfl ca (Gv.neqB underlying4 rfl rfl)<|zTk 10 rfl (zPt rfl ca rfl)<|zTk 11 rfl (zFF underlying142 rfl sizeOf2 rfl rfl)<|zTk 12 rfl (zLi isAgg2 rfl)<|zTk 13 rfl (zMi rfl)<|zOn 14 rfl<|ze (hs) rfl<|z6<|zTk 15 rfl (y5 (cps := [(0, [_]), (1, [_])]) (rs := [_, _]) pl142 rfl rfl rfl)<|yw<|q4 (i := 16) rfl (by kernel_rfl) (by kernel_rfl)<|zm sizeOf142 rfl rfl rfl rfl rfl rfl .head rfl<|z6<|yz (by kernel_rfl)<|zf<|q0 rfl ⟨_, .head⟩ isAgg142 sizeOf142 rfl ?_
   show AV.agg [.bool (!(decide (0 < n) == up)), .int .i64 (near3 0 a.2 n)] = _; unfold encBd; rw [show a.1 = true from ca]; rfl
  ·refine zTf 3 rfl rfl rfl ca<|zTf 4 rfl rfl rfl ca<|zTf 5 rfl rfl rfl ca<|zTf 6 rfl rfl rfl ca<|zTf 7 rfl rfl rfl ca<|zTf 8 rfl rfl rfl ca<|zTf 9 rfl rfl rfl ca<|zTk 10 rfl (zPf rfl ca rfl)<|zTk 11 rfl (zFF underlying142 rfl sizeOf2 rfl rfl)<|zTk 12 rfl (zLi isAgg2 rfl)<|zTk 13 rfl (zMi rfl)<|zOn 14 rfl<|ze (hs) rfl<|z6<|zTk 15 rfl (y5 (cps := [(0, [_]), (1, [_])]) (rs := [_, _]) pl142 rfl rfl rfl)<|yw<|q4 (i := 16) rfl (by kernel_rfl) (by kernel_rfl)<|zm sizeOf142 rfl rfl rfl rfl rfl rfl .head rfl<|z6<|yz (by kernel_rfl)<|zf<|q0 rfl ⟨_, .head⟩ isAgg142 sizeOf142 rfl ?_
   show AV.agg [.bool false, .int .i64 (near3 0 a.2 n)] = _; unfold encBd; rw [show a.1 = false from ca]; rfl
 ·have hf : fit3 0 a.2 n := notdecF c
  rw [show sumBd up a n = (a.1, a.2 + n) by unfold sumBd; rw [if_pos hf]]
  refine zc<|zSr<|z2 (zFF underlying142 rfl sizeOf4 rfl rfl)<|z2 (yu (c := .bool _) isAgg4 rfl)<|z2 (zMi rfl)<|z2 (y5 (cps := [(0, [_]), (1, [_])]) (rs := [_, _]) pl142 rfl rfl rfl)<|zm sizeOf142 rfl rfl rfl rfl rfl rfl .head rfl<|z6<|zf<|q0 rfl ⟨_, .head⟩ isAgg142 sizeOf142 rfl ?_
  rw [show IntKind.i64.wrap (a.2 + n) = a.2 + n from wrap_fit hf]; rfl
theorem tPhi_spec (up : Bool) (s : Int) (I : AV) (bp bs : Nat) (low : Bnd) (d : List Bnd) (v : Int) (hv : 0 ≤ v ∧ v < d.length) (p : PPhi) (hp : ∀ a ∈ p.args, 0 ≤ a ∧ a < d.length) (hpl : p.args.length ≤ 1000) (S : List (Int × AV)) (sh : Bool) (hS : (ag v S).getD (.int .i64 0) = .int .i64 (if sh = true then 1 else 0)) :
  ACall prog E 188 [.pf (sideC up s I bp bs low (.fro 2 (d.map encBd))), .int .i64 v, .agg (encPhi p)] [(0, mapAO bs S)] (sameO 0 (mapAO bs S) (.bool (!sh && covPhi up d v p))) := by
 have hcov := fun a b => tCov_spec (E := E) up s I bp bs low (.fro 2 (d.map encBd)) a b
 unfold sideC at hcov ⊢
 have hgv := bd_get hv.1 hv.2
 refine ACall.now2<|zo func188 rfl (by decide) rfl<|zSr<|y7 (cs := _) rfl rfl rfl<|z2 (zAb rfl)<|z6<|za<|zSr<|z2 (zMg rfl)<|z2 (yq rfl)<|z2 (zFF underlying146 rfl sizeOf144 rfl rfl)<|z2 (yu (c := .raw _) isAgg144 rfl)<|z2 (zMi rfl)<|z2 (Gv.lookup1A (zx := .int .i64 0) hS underlying144 underlying3 zeroValue3 (fun _ => rfl) rfl rfl ⟨_, .head⟩)<|z2 (yv rfl rfl)<|z6<|zp rfl (fun c=>?_) (fun c=>?_)
 ·have h : sh = true := by cases sh; exact absurd c (by decide); rfl
  refine zSr<|z2 (zAb rfl)<|z6<|zf<|zj (x := .bool _) rfl ?_
  exact ⟨jb (by rw [h]; rfl), .d0⟩
 ·have h : sh = false := by cases sh; rfl; exact absurd (show (0 : Int) < 1 by decide) c
  refine zc<|za<|zSr<|z2 (zFF underlying95 rfl sizeOf23 rfl rfl)<|z2 (zLf isAgg23 rfl)<|z2 (zz underlying23 rfl)<|z2 (zMi rfl)<|z6<|zh<|y6 (γ := Nat) [0, 1, 17, 18] (fun k => [(19, .int .i64 k)]) (fun k => [(0, mapAO bs S)]) (fun k => k ≤ p.args.length ∧ (p.args.take k).all (fun a => covB up (bd d v) (bd d a)) = true) (fun k => p.args.length - k) 0 zR1 zLe (⟨qm _, rfl⟩) ?_
  rintro k ⟨hk, hall⟩
  refine zSr<|z2 (y8 rfl rfl)<|z6<|za<|zp rfl (fun ck=>?_) (fun ck=>?_)
  ·have hk2 : k < p.args.length := by simp at ck; omega
   obtain ⟨a, ha⟩ : ∃ a, p.args[k] = a := ⟨_, rfl⟩
   have hpa := hp a (ha ▸ qn hk2)
   refine zc<|za<|zh<|zSr<|z2 (zIM k underlying23 sizeOf3 rfl rfl rfl (by rw [qj hk2, ha]))<|z2 (zLi isAgg3 rfl)<|z2 (zAi rfl)<|z6<|za<|y1 (fun j => false) (by kernel_rfl) rfl (zn (.rest _))<|zTk 0 rfl (zMg rfl)<|zTk 1 rfl (zMg rfl)<|zTk 2 rfl (yq rfl)<|zTk 3 rfl (zFF underlying146 rfl sizeOf85 rfl rfl)<|zTk 4 rfl (zLf isAgg85 rfl)<|zTk 5 rfl (zMi rfl)<|zTk 6 rfl (zIM v.toNat underlying85 sizeOf142 rfl rfl (by omega) hgv)<|zTk 7 rfl (zk isAgg142 sizeOf142 rfl rfl)<|zTk 8 rfl (zMg rfl)<|zTk 9 rfl (yq rfl)<|zTk 10 rfl (zFF underlying146 rfl sizeOf85 rfl rfl)<|zTk 11 rfl (zLf isAgg85 rfl)<|zTk 12 rfl (zMi rfl)<|zTk 13 rfl (zIM a.toNat underlying85 sizeOf142 rfl rfl (by omega) (bd_get hpa.1 hpa.2))<|zTk 14 rfl (zk isAgg142 sizeOf142 rfl rfl)<|zOn 15 rfl<|ze (hcov (bd d v) (bd d a)) rfl<|z6<|zTk 16 rfl (yd rfl)<|zDn<|zr rfl (fun cc=>?_) (fun cc=>?_)
   ·have hb : covB up (bd d v) (bd d a) = false := by simpa using cc
    refine zSr<|z2 (zAb rfl)<|z6<|zf<|zj (x := .bool _) rfl ?_
    exact ⟨jb (by unfold covPhi; rw [h, List.all_eq_false.2 ⟨a, ha ▸ qn hk2, by rw [hb]; decide⟩]; rfl), .d0⟩
   ·have hb : covB up (bd d v) (bd d a) = true := by simpa using cc
    refine zc<|zRg<|z2 (zAd rfl rfl)<|z2 (zMi rfl)<|z6 ?_
    exact ⟨k + 1, zR4, zR1, zLe, ⟨hk2, by rw [qk hk2, List.all_append, hall, ha]; simp [hb]⟩, by omega⟩
  ·have hkn : k = p.args.length := by simp at ck; omega
   rw [hkn, qo] at hall
   refine y4<|zSr<|z2 (zAb rfl)<|z6<|zf<|zj (x := .bool _) rfl ?_
   exact ⟨jb (by unfold covPhi; rw [h, hall]; rfl), .d0⟩
end Go.Proofs.YtjnpcfpecilejaaGreatDoor
