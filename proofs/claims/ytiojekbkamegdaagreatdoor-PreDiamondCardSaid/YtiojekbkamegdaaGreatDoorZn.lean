/- A bag: owned things whose names are told by lists. No conditions. -/
import Derived.Test.YtiojekbkamegdaaGreatDoorZm
import Derived.Test.YtiojekbkamegdaaGreatDoorZe
import Derived.Test.YtiojekbkamegdaaGreatDoorZc
set_option linter.unusedVariables false
set_option linter.unusedSimpArgs false
set_option linter.unusedSectionVars false
namespace Go.Proofs.YtiojekbkamegdaaGreatDoor
open Go.Proofs.Tryz
open Go.Proofs Go.Lib Go.Shelf Go.RowKit
theorem pl184 : Places prog 184 #[(0, 3), (3, 1), (4, 1), (5, 1)] [.raw (.slice none 0 0), .raw (.slice none 0 0), .raw (.slice none 0 0), .raw (.pointer none), .raw (.slice none 0 0), .raw (.slice none 0 0)] := ⟨_, _, underlying184, zeroValue184, fun w => by kernel_rfl, rfl⟩
variable {E : World}
set_option maxRecDepth 20000
theorem indexZ_spec (xs : List Int) (v : Int) (hl : xs.length ≤ 281474976710656) : AFun prog E 169 [.fro 1 (xs.map encI), .int .i64 v] (.int .i64 (firstI (fun x => decide (v = x)) xs 0)) := by
 refine zo func169 rfl (by decide) rfl<|zSr<|z2 (zAi rfl)<|z6<|zd<|zSr<|z2 (zMf rfl)<|z2 (y2 underlying23 rfl)<|z2 (zMi rfl)<|z6<|zi<|y5 (γ := Nat) [0, 1, 7] (fun k => [(8, .int .i64 k)]) (fun k => []) (fun k => k ≤ xs.length ∧ (xs.take k).all (fun x => !decide (v = x))) (fun k => xs.length - k) 0 zR1 zLe (⟨qt _, rfl⟩) ?_
 rintro k ⟨hk, hall⟩
 refine zSr<|z2 (yb rfl rfl)<|z6<|zd<|zr rfl (fun ck=>?_) (fun ck=>?_)
 ·have hk2 : k < xs.length := by simp at ck; omega
  refine zh<|zd<|zi<|zSr<|z2 (zMi rfl)<|z2 (zAi rfl)<|z6<|zSr<|z2 (zMi rfl)<|z2 (zMf rfl)<|z2 (zMi rfl)<|z2 (zIM k underlying23 sizeOf3 rfl rfl rfl (qq hk2))<|z2 (zLi isAgg3 rfl)<|z2 (y7 rfl rfl)<|z6<|zz rfl (fun cp=>?_) (fun cp=>?_)
  ·refine zSr<|z2 (zMi rfl)<|z2 (zAi rfl)<|z6<|zg<|zk (x := .int _ _) rfl ?_
   rw [firstI_drop _ xs k hk hall, List.drop_eq_getElem_cons hk2, firstI, if_pos (by simpa using cp)]
  ·refine zh<|zRg<|z2 (zAd rfl rfl)<|z2 (zMi rfl)<|z6 ?_
   exact ⟨k + 1, zR3, zR1, zLe, ⟨hk2, by rw [qr hk2, List.all_append, hall]; simpa using cp⟩, by omega⟩
 ·have hkn : k = xs.length := by simp at ck; omega
  refine y4<|zSr<|z2 (zAi rfl)<|z6<|zg<|zk (x := .int _ _) rfl ?_
  rw [firstI_drop _ xs k hk hall, hkn, List.drop_length, firstI]
theorem containsZ_spec (xs : List Int) (v : Int) (hl : xs.length ≤ 281474976710656) : AFun prog E 154 [.fro 1 (xs.map encI), .int .i64 v] (.bool (xs.contains v)) := by
 refine zo func154 rfl (by decide) rfl<|zSr<|z2 (zAb rfl)<|z6<|zSr<|z2 (zMf rfl)<|z2 (zMi rfl)<|zf (indexZ_spec xs v hl) rfl<|z2 (q6 rfl rfl)<|z2 (zAb rfl)<|z6<|zg<|zk (x := .bool _) rfl ?_
 rw [firstI_ge]; congr 1; rw [Bool.eq_iff_iff]; simp
def pureB (op : Int) : Bool := isOp op && (!(decide (18 ≤ op) && decide (op ≤ 24)) && (!decide (op = 14) && (!decide (op = 17) && !decide (op = 15))))
theorem chkOp_spec (op : Int) : AFun prog E 167 [.int .i64 op] (.bool (decide (18 ≤ op) && decide (op ≤ 24))) := by
 refine zo func167 rfl (by decide) rfl<|zSr<|z2 (zAb rfl)<|z6<|zSr<|z2 (zMi rfl)<|z2 (q6 rfl rfl)<|z2 (zMb rfl)<|zt (s := 5) rfl (fun c1=>?_) (fun c1=>?_)
 ·refine z8 rfl rfl c1<|z2 (zMi rfl)<|z8 rfl rfl c1<|z2 (Gv.leq rfl rfl)<|z2 (zPt rfl c1 rfl)<|z2 (zAb rfl)<|z6<|zg<|zk (x := .bool _) rfl ?_
  exact jb (by simp_all <;> omega)
 ·refine z7 rfl rfl c1<|z7 rfl rfl c1<|z2 (zPf rfl c1 rfl)<|z2 (zAb rfl)<|z6<|zg<|zk (x := .bool _) rfl ?_
  exact jb (by simp_all <;> omega)
theorem pureOp_spec (op : Int) : AFun prog E 166 [.int .i64 op] (.bool (pureB op)) := by
 refine zo func166 rfl (by decide) rfl<|zSr<|z2 (zAb rfl)<|z6<|zSr<|z2 (zMi rfl)<|zf (is_spec op) rfl<|z2 (zMb rfl)<|zt (s := 5) rfl (fun c2=>?_) (fun c2=>?_)
 ·refine z8 rfl rfl c2<|z2 (zMi rfl)<|z8 rfl rfl c2<|zf (chkOp_spec op) rfl<|z8 rfl rfl c2<|z2 (yl rfl)<|z2 (zPt rfl c2 rfl)<|z2 (zMb rfl)<|zt (s := 10) rfl (fun c3=>?_) (fun c3=>?_)
  ·refine z8 rfl rfl c3<|z2 (zMi rfl)<|z8 rfl rfl c3<|z2 (yj rfl rfl)<|z2 (zPt rfl c3 rfl)<|z2 (zMb rfl)<|zt (s := 14) rfl (fun c4=>?_) (fun c4=>?_)
   ·refine z8 rfl rfl c4<|z2 (zMi rfl)<|z8 rfl rfl c4<|z2 (yj rfl rfl)<|z2 (zPt rfl c4 rfl)<|z2 (zMb rfl)<|zt (s := 18) rfl (fun c5=>?_) (fun c5=>?_)
    ·refine z8 rfl rfl c5<|z2 (zMi rfl)<|z8 rfl rfl c5<|z2 (yj rfl rfl)<|z2 (zPt rfl c5 rfl)<|z2 (zAb rfl)<|z6<|zg<|zk (x := .bool _) rfl ?_
     exact jb (by unfold pureB; simp_all)
    ·refine z7 rfl rfl c5<|z7 rfl rfl c5<|z2 (zPf rfl c5 rfl)<|z2 (zAb rfl)<|z6<|zg<|zk (x := .bool _) rfl ?_
     exact jb (by unfold pureB; simp_all)
   ·refine z7 rfl rfl c4<|z7 rfl rfl c4<|z2 (zPf rfl c4 rfl)<|z2 (zMb rfl)<|z7 rfl rfl rfl<|z7 rfl rfl rfl<|z2 (zPf rfl rfl rfl)<|z2 (zAb rfl)<|z6<|zg<|zk (x := .bool _) rfl ?_
    exact jb (by unfold pureB; simp_all)
  ·refine z7 rfl rfl c3<|z7 rfl rfl c3<|z2 (zPf rfl c3 rfl)<|z2 (zMb rfl)<|z7 rfl rfl rfl<|z7 rfl rfl rfl<|z2 (zPf rfl rfl rfl)<|z2 (zMb rfl)<|z7 rfl rfl rfl<|z7 rfl rfl rfl<|z2 (zPf rfl rfl rfl)<|z2 (zAb rfl)<|z6<|zg<|zk (x := .bool _) rfl ?_
   exact jb (by unfold pureB; simp_all)
 ·refine z7 rfl rfl c2<|z7 rfl rfl c2<|z7 rfl rfl c2<|z2 (zPf rfl c2 rfl)<|z2 (zMb rfl)<|z7 rfl rfl rfl<|z7 rfl rfl rfl<|z2 (zPf rfl rfl rfl)<|z2 (zMb rfl)<|z7 rfl rfl rfl<|z7 rfl rfl rfl<|z2 (zPf rfl rfl rfl)<|z2 (zMb rfl)<|z7 rfl rfl rfl<|z7 rfl rfl rfl<|z2 (zPf rfl rfl rfl)<|z2 (zAb rfl)<|z6<|zg<|zk (x := .bool _) rfl ?_
  exact jb (by unfold pureB; simp_all)
theorem pfirst1_spec (x : PInst) (hx : 0 ≤ x.op ∧ x.op ≤ 26) : AFun prog E 165 ([.agg (encInst x)] ++ []) (.bool (stopB x.op)) := by
 have h : stopB x.op = (!pureB x.op && !decide (x.op = 14)) := by
  unfold stopB pureB isOp
  rw [Bool.eq_iff_iff]
  simp only [Bool.or_eq_true, Bool.and_eq_true, Bool.not_eq_true', Bool.and_eq_false_iff, Bool.not_eq_false', decide_eq_true_eq, decide_eq_false_iff_not]
  omega
 rw [h]
 refine zo func165 rfl (by decide) rfl<|zSr<|y9 (cs := _) rfl rfl rfl<|z2 (zAb rfl)<|z6<|zSr<|z2 (zFF underlying61 rfl sizeOf59 rfl rfl)<|z2 (zLi isAgg59 rfl)<|zf (pureOp_spec x.op) rfl<|z2 (yl rfl)<|z2 (zMb rfl)<|zt (s := 7) rfl (fun c6=>?_) (fun c6=>?_)
 ·refine z8 rfl rfl c6<|z2 (zFF underlying61 rfl sizeOf59 rfl rfl)<|z8 rfl rfl c6<|z2 (zLi isAgg59 rfl)<|z8 rfl rfl c6<|z2 (yj rfl rfl)<|z2 (zPt rfl c6 rfl)<|z2 (zAb rfl)<|z6<|zg<|zk (x := .bool _) rfl ?_
  exact jb (by simp_all)
 ·refine z7 rfl rfl c6<|z7 rfl rfl c6<|z7 rfl rfl c6<|z2 (zPf rfl c6 rfl)<|z2 (zAb rfl)<|z6<|zg<|zk (x := .bool _) rfl ?_
  exact jb (by simp_all)
def plB (f : PFunc) : Bool := typedB f && (singB f && plainB f)
def workL (f : PFunc) : List AV := encF f ++ [treeT f, .fro 2 ((makersT f).map eP.row), froN eI (predsR f f.blocks.length)]
theorem plook_ok (f : PFunc) (hf : small f) (hL : Letters E) (h : plB f = true) : AFun prog E 110 [.agg (encF f)] (.tup [.pf (workL f), .int .i64 0]) := by
 have hP := SingPlain_spec (E := E) f hf hL
 unfold plB at h
 rw [h] at hP
 have ht := (and3 h).1
 refine zo func110 rfl (by decide) rfl<|zSr<|y9 (cs := _) rfl rfl rfl<|z2 (zAr rfl)<|z2 (zAi rfl)<|z6<|zd<|zSr<|z2 (zp isAgg26 sizeOf26 rfl rfl)<|zf (hP) rfl<|z2 (zAi rfl)<|z6<|zSr<|z2 (zMi rfl)<|z2 (yj rfl rfl)<|z6<|ym rfl rfl<|zh<|zSr<|z2 (zp isAgg26 sizeOf26 rfl rfl)<|zf (New_spec f hf hL ht) rfl<|z2 (zMu rfl)<|z2 (Gv.extract (v := .pf _) rfl rfl)<|z2 (zXi rfl rfl)<|z2 (q7 (v := .pf _) rfl)<|z2 (zAi rfl)<|z6<|zd<|zSr<|z2 (zMi rfl)<|z2 (yj rfl rfl)<|z6<|ym rfl rfl<|zh<|zd<|zu (fun j => false) (by kernel_rfl) rfl (zm (.rest _))<|zTk 0 rfl (zp isAgg26 sizeOf26 rfl rfl)<|zTk 1 rfl (zMg rfl)<|zTk 2 rfl (zp isAgg26 sizeOf26 rfl rfl)<|zTk 4 rfl (zp isAgg26 sizeOf26 rfl rfl)<|zOn 3 rfl ?_
 refine zf (Makers_spec f hf hL ht) rfl<|z6<|zOn 5 rfl<|zf (predsX_spec f hf hL ht) rfl<|z6<|zTk 6 rfl (zx (cps := [(0, [_, _, _]), (1, [_]), (2, [_]), (3, [_])]) (rs := [_, _, _, _, _, _]) pl184 rfl rfl rfl)<|zOn 7 rfl<|y9 (cs := _) rfl rfl rfl<|z6<|zTk 8 rfl (q7 (v := .pf _) rfl)<|zTk 9 rfl (zAi rfl)<|zDn<|zg<|afin.t2 (x := .pf _) (y := .int _ _) rfl rfl ?_
 rfl
theorem plook_bad (f : PFunc) (hf : small f) (hL : Letters E) (h : plB f = false) : AFun prog E 110 [.agg (encF f)] (.tup [.raw (.pointer none), .int .i64 3]) := by
 have hP := SingPlain_spec (E := E) f hf hL
 unfold plB at h
 rw [h] at hP
 refine zo func110 rfl (by decide) rfl<|zSr<|y9 (cs := _) rfl rfl rfl<|z2 (zAr rfl)<|z2 (zAi rfl)<|z6<|zd<|zSr<|z2 (zp isAgg26 sizeOf26 rfl rfl)<|zf (hP) rfl<|z2 (zAi rfl)<|z6<|zSr<|z2 (zMi rfl)<|z2 (yj rfl rfl)<|z6<|yo rfl rfl<|zSr<|z2 (zMi rfl)<|z2 (zAr rfl)<|z2 (zAi rfl)<|z6<|zg<|afin.t2 (x := .raw _) (y := .int _ _) rfl rfl ?_
 rfl
theorem pfirst2_spec (f : PFunc) (b v : Int) (hv : hasV f v = true) : AFun prog E 168 ([.int .i64 v] ++ [.pf [.pf (workL f)], .pf [.int .i64 b]]) (.bool (ownB f b v)) := by
 obtain ⟨hv0, hvg⟩ := makers_idx hv
 refine zo func168 rfl (by decide) rfl<|zSr<|z2 (zAb rfl)<|z6<|zd<|zu (fun j => false) (by kernel_rfl) rfl (zm (.rest _))<|zTk 0 rfl (qa (c := .pf _) isAgg179 rfl)<|zTk 1 rfl (yx rfl)<|zTk 2 rfl (zFF underlying184 rfl sizeOf139 rfl rfl)<|zTk 3 rfl (zLf isAgg139 rfl)<|zTk 4 rfl (zMi rfl)<|zTk 5 rfl (zIM v.toNat underlying139 sizeOf144 rfl rfl (by omega) hvg)<|zTk 6 rfl (zFF underlying144 rfl sizeOf3 rfl rfl)<|zTk 7 rfl (zLi isAgg3 rfl)<|zTk 8 rfl (zLi isAgg3 rfl)<|zTk 9 rfl (y7 rfl rfl)<|zTk 10 rfl (zMb rfl)<|qh (s := 15) rfl (fun c=>?_) (fun c=>?_)
 ·refine zTt 11 rfl rfl rfl c (qa (c := .pf _) isAgg179 rfl)<|zTt 12 rfl rfl rfl c (yx rfl)<|zTt 13 rfl rfl rfl c (zFF underlying184 rfl sizeOf139 rfl rfl)<|zTt 14 rfl rfl rfl c (zLf isAgg139 rfl)<|zTt 15 rfl rfl rfl c (zMi rfl)<|zTt 16 rfl rfl rfl c (zIM v.toNat underlying139 sizeOf144 rfl rfl (by omega) hvg)<|zTt 17 rfl rfl rfl c (zFF underlying144 rfl sizeOf3 rfl rfl)<|zTt 18 rfl rfl rfl c (zLi isAgg3 rfl)<|zTt 19 rfl rfl rfl c (q6 rfl rfl)<|zTk 20 rfl (zPt rfl c rfl)<|zTk 21 rfl (zAb rfl)<|zDn<|zg<|zk (x := .bool _) rfl ?_
  exact jb (by unfold ownB; simp_all)
 ·refine zTf 11 rfl rfl rfl c<|zTf 12 rfl rfl rfl c<|zTf 13 rfl rfl rfl c<|zTf 14 rfl rfl rfl c<|zTf 15 rfl rfl rfl c<|zTf 16 rfl rfl rfl c<|zTf 17 rfl rfl rfl c<|zTf 18 rfl rfl rfl c<|zTf 19 rfl rfl rfl c<|zTk 20 rfl (zPf rfl c rfl)<|zTk 21 rfl (zAb rfl)<|zDn<|zg<|zk (x := .bool _) rfl ?_
  exact jb (by unfold ownB; simp_all)
theorem inst_rng {f : PFunc} {x : PInst} (h : InstP f x) : 0 ≤ x.op ∧ x.op ≤ 26 := ⟨h.1, h.2.1⟩
theorem inTo_len {f : PFunc} (hf : small f) (b : Int) : (inTo f b).length ≤ 2000 := by
 have h1 := predsT_len f b f.blocks.length
 have h2 := hf.2.2.1
 unfold inTo; omega
theorem ndT {p : Prop} [Decidable p] (h : (!decide p) = true) : ¬ p := fun hp => by rw [w3 hp] at h; cases h
theorem ndF {p : Prop} [Decidable p] (h : (!decide p) = false) : p := Classical.byContradiction fun hp => by rw [w4 hp] at h; cases h
theorem firstI_rng {α : Type} (p : α → Bool) (xs : List α) (k : Nat) : firstI p xs k = -1 ∨ (k ≤ firstI p xs k ∧ firstI p xs k < k + xs.length) := by
 induction xs generalizing k with
 | nil => exact .inl rfl
 | cons x xs ih =>
  unfold firstI
  split
  ·right; simp; omega
  ·rcases ih (k + 1) with h | h
   ·exact .inl h
   ·right; simp; omega
theorem pfirst_spec (f : PFunc) (hf : small f) (hS : ShapedP f) (b : Int) : AFun prog E 111 [.pf (workL f), .int .i64 b] (.tup [.int .i64 (max (firstF f b) 0), .bool (decide (0 ≤ firstF f b))]) := by
 have hn := hf.2.2.1
 have hpl := inTo_len hf b
 refine zo func111 rfl (by decide) rfl<|zSr<|y9 (cs := [_]) rfl rfl rfl<|y9 (cs := [_]) rfl rfl rfl<|z2 (zAi rfl)<|z2 (zAb rfl)<|z6<|zd<|zd<|yp (γ := Bool) [2, 3] (fun u => [(41, .bool u)]) (fun u => []) (fun u => u = !decide ((0 ≤ b ∧ b < f.blocks.length) ∧ mayB f b = true)) ?_ (fun _ _ h => h) ?_
 ·refine zu (fun j => false) (by kernel_rfl) rfl (zm (.rest _))<|zTk 0 rfl (zLi isAgg3 rfl)<|zTk 1 rfl (yb rfl rfl)<|zTk 2 rfl (zMb rfl)<|qh (s := 11) rfl (fun c1=>?_) (fun c1=>?_)
  ·refine zTf 3 rfl rfl rfl c1<|zTf 4 rfl rfl rfl c1<|zTf 5 rfl rfl rfl c1<|zTf 6 rfl rfl rfl c1<|zTf 7 rfl rfl rfl c1<|zTf 8 rfl rfl rfl c1<|zTf 9 rfl rfl rfl c1<|zTk 10 rfl (zPt rfl c1 rfl)<|zTk 11 rfl (zMb rfl)<|zTf 12 rfl rfl rfl rfl<|zTf 13 rfl rfl rfl rfl<|zTf 14 rfl rfl rfl rfl<|zTf 15 rfl rfl rfl rfl<|zTf 16 rfl rfl rfl rfl<|zTf 17 rfl rfl rfl rfl<|zTf 18 rfl rfl rfl rfl<|zTf 19 rfl rfl rfl rfl<|zTf 20 rfl rfl rfl rfl<|zTk 21 rfl (zPt rfl rfl rfl)<|zTk 22 rfl (zMb rfl)<|zTf 23 rfl rfl rfl rfl<|zTf 24 rfl rfl rfl rfl<|zTf 25 rfl rfl rfl rfl<|zTf 26 rfl rfl rfl rfl<|zTf 27 rfl rfl rfl rfl<|zTf 28 rfl rfl rfl rfl<|zTf 29 rfl rfl rfl rfl<|zTf 30 rfl rfl rfl rfl<|zTf 31 rfl rfl rfl rfl<|zTk 32 rfl (zPt rfl rfl rfl)<|zDn ?_
   exact ⟨_, zR2, zR1, zLe, by have h : b < 0 := (by simpa using c1); simp; omega⟩
  ·refine zTt 3 rfl rfl rfl c1 (zLi isAgg3 rfl)<|zTt 4 rfl rfl rfl c1 (qa (c := .pf _) isAgg179 rfl)<|zTt 5 rfl rfl rfl c1 (yx rfl)<|zTt 6 rfl rfl rfl c1 (zFF underlying184 rfl sizeOf118 rfl rfl)<|zTt 7 rfl rfl rfl c1 (zLf isAgg118 rfl)<|zTt 8 rfl rfl rfl c1 (y2 underlying118 rfl)<|zTt 9 rfl rfl rfl c1 (q6 rfl rfl)<|zTk 10 rfl (zPf rfl c1 rfl)<|zTk 11 rfl (zMb rfl)<|qh (s := 20) rfl (fun c2=>?_) (fun c2=>?_)
   ·refine zTf 12 rfl rfl rfl c2<|zTf 13 rfl rfl rfl c2<|zTf 14 rfl rfl rfl c2<|zTf 15 rfl rfl rfl c2<|zTf 16 rfl rfl rfl c2<|zTf 17 rfl rfl rfl c2<|zTf 18 rfl rfl rfl c2<|zTf 19 rfl rfl rfl c2<|zTf 20 rfl rfl rfl c2<|zTk 21 rfl (zPt rfl c2 rfl)<|zTk 22 rfl (zMb rfl)<|zTf 23 rfl rfl rfl rfl<|zTf 24 rfl rfl rfl rfl<|zTf 25 rfl rfl rfl rfl<|zTf 26 rfl rfl rfl rfl<|zTf 27 rfl rfl rfl rfl<|zTf 28 rfl rfl rfl rfl<|zTf 29 rfl rfl rfl rfl<|zTf 30 rfl rfl rfl rfl<|zTf 31 rfl rfl rfl rfl<|zTk 32 rfl (zPt rfl rfl rfl)<|zDn ?_
    exact ⟨_, zR2, zR1, zLe, by have h : (f.blocks.length : Int) ≤ b := (by simpa [predsR_len] using c2); simp; omega⟩
   ·have h1 : ¬ b < 0 := by simpa using c1
    have h2 : ¬ (f.blocks.length : Int) ≤ b := by simpa [predsR_len] using c2
    have hrow : (predsR f f.blocks.length)[b.toNat]? = some (inTo f b) := by have := predsR_row f (k := b.toNat) (by omega); rwa [show ((b.toNat : Nat) : Int) = b by omega] at this
    refine zTt 12 rfl rfl rfl c2 (qa (c := .pf _) isAgg179 rfl)<|zTt 13 rfl rfl rfl c2 (yx rfl)<|zTt 14 rfl rfl rfl c2 (zFF underlying184 rfl sizeOf118 rfl rfl)<|zTt 15 rfl rfl rfl c2 (zLf isAgg118 rfl)<|zTt 16 rfl rfl rfl c2 (zLi isAgg3 rfl)<|zTt 17 rfl rfl rfl c2 (zIM b.toNat underlying118 sizeOf23 rfl rfl (by omega) hrow)<|zTt 18 rfl rfl rfl c2 (zLf isAgg23 rfl)<|zTt 19 rfl rfl rfl c2 (y2 underlying23 rfl)<|zTt 20 rfl rfl rfl c2 (yb rfl rfl)<|zTk 21 rfl (zPf rfl c2 rfl)<|zTk 22 rfl (zMb rfl)<|qh (s := 31) rfl (fun c3=>?_) (fun c3=>?_)
    ·refine zTf 23 rfl rfl rfl c3<|zTf 24 rfl rfl rfl c3<|zTf 25 rfl rfl rfl c3<|zTf 26 rfl rfl rfl c3<|zTf 27 rfl rfl rfl c3<|zTf 28 rfl rfl rfl c3<|zTf 29 rfl rfl rfl c3<|zTf 30 rfl rfl rfl c3<|zTf 31 rfl rfl rfl c3<|zTk 32 rfl (zPt rfl c3 rfl)<|zDn ?_
     exact ⟨_, zR2, zR1, zLe, by have h : (inTo f b).length < 2 := (by have h0 : ((inTo f b).length : Int) < 2 := (by simpa using c3); omega); unfold mayB; simp; omega⟩
    ·refine zTt 23 rfl rfl rfl c3 (qa (c := .pf _) isAgg179 rfl)<|zTt 24 rfl rfl rfl c3 (yx rfl)<|zTt 25 rfl rfl rfl c3 (zFF underlying184 rfl sizeOf118 rfl rfl)<|zTt 26 rfl rfl rfl c3 (zLf isAgg118 rfl)<|zTt 27 rfl rfl rfl c3 (zLi isAgg3 rfl)<|zTt 28 rfl rfl rfl c3 (zIM b.toNat underlying118 sizeOf23 rfl rfl (by omega) hrow)<|zTt 29 rfl rfl rfl c3 (zLf isAgg23 rfl)<|zTt 30 rfl rfl rfl c3 (zLi isAgg3 rfl)<|zOn 31 rfl<|z8 rfl rfl c3<|zf (containsZ_spec (inTo f b) b (by omega)) rfl<|z6<|zTk 32 rfl (zPf rfl c3 rfl)<|zDn ?_
     exact ⟨_, zR2, zR1, zLe, by have h : ¬ (inTo f b).length < 2 := (by have h0 : ¬ ((inTo f b).length : Int) < 2 := (by simpa using c3); omega); have e : mayB f b = !(inTo f b).contains b := (by unfold mayB; rw [w3 (by omega)]; rfl); rw [show decide ((0 ≤ b ∧ b < f.blocks.length) ∧ mayB f b = true) = mayB f b from (by rw [Bool.eq_iff_iff, decide_eq_true_eq]; exact ⟨fun h => h.2, fun h => ⟨⟨by omega, by omega⟩, h⟩⟩), e, Bool.not_not]⟩
 ·rintro u hu
  subst hu
  refine zz rfl (fun c=>?_) (fun c=>?_)
  ·have hc := ndT c
   have hF : firstF f b = -1 := by unfold firstF; rw [if_neg hc]
   rw [hF]
   refine zSr<|z2 (zAi rfl)<|z2 (zAb rfl)<|z6<|zg<|afin.t2 (x := .int _ _) (y := .bool _) rfl rfl ?_
   rfl
  ·have hc := ndF c
   obtain ⟨⟨h0, h1⟩, hm⟩ := hc
   obtain ⟨k, rfl⟩ : ∃ k : Nat, b = (k : Int) := ⟨b.toNat, by omega⟩
   have hk : k < f.blocks.length := by omega
   obtain ⟨B, hB⟩ : ∃ B, f.blocks[k] = B := ⟨_, rfl⟩
   have hget : f.blocks[k]? = some B := by rw [qq hk, hB]
   have hmem : B ∈ f.blocks := hB ▸ qu hk
   obtain ⟨hb0, hb1, hb2, hb3, hb4⟩ := hf.2.2.2.2 B hmem
   obtain ⟨hPh, hIn, hTm⟩ := hS.2.2.2.2.2 B hmem
   have hI : instsAt f (k : Int) = B.insts := by unfold instsAt; rw [show ((k : Int)).toNat = k from rfl, hget]; rfl
   have hF : firstF f (k : Int) = firstJ f (k : Int) (firstI (fun x => stopB x.op) B.insts 0) := by unfold firstF; rw [if_pos ⟨⟨h0, h1⟩, hm⟩, hI]
   rw [hF]
   obtain ⟨i, hi⟩ : ∃ i, firstI (fun x : PInst => stopB x.op) B.insts 0 = i := ⟨_, rfl⟩
   have hrng := firstI_rng (fun x : PInst => stopB x.op) B.insts 0
   rw [hi] at hrng ⊢
   refine zh<|zd<|zu (fun j => false) (by kernel_rfl) rfl (zm (.rest _))<|zTk 0 rfl (qa (c := .pf _) isAgg179 rfl)<|zTk 1 rfl (yx rfl)<|zTk 2 rfl (zFF underlying184 rfl sizeOf26 rfl rfl)<|zTk 3 rfl (zFF underlying26 rfl sizeOf24 rfl rfl)<|zTk 4 rfl (zLf isAgg24 rfl)<|zTk 5 rfl (zLi isAgg3 rfl)<|zTk 6 rfl (zIM k underlying24 sizeOf58 rfl rfl rfl hget)<|zTk 7 rfl (zFF underlying58 rfl sizeOf52 rfl rfl)<|zTk 8 rfl (zLf isAgg52 rfl)<|zTk 9 rfl (zAf rfl)<|zDn<|zSr<|z2 (zMf rfl)<|zf ((hi ▸ indexFuncX_spec B.insts (by omega) (fun x hx => pfirst1_spec x (inst_rng (hIn x hx))))) rfl<|z2 (zAi rfl)<|z6<|zd<|zSr<|z2 (zMi rfl)<|z2 (yb rfl rfl)<|z2 (zMb rfl)<|zt (s := 55) rfl (fun c2=>?_) (fun c2=>?_)
   ·have h2 : i < 0 := by simpa using c2
    refine z7 rfl rfl c2<|z7 rfl rfl c2<|z7 rfl rfl c2<|z7 rfl rfl c2<|z7 rfl rfl c2<|z7 rfl rfl c2<|z7 rfl rfl c2<|z2 (zPt rfl c2 rfl)<|z6<|yo rfl rfl<|zSr<|z2 (zAi rfl)<|z2 (zAb rfl)<|z6<|zg<|afin.t2 (x := .int _ _) (y := .bool _) rfl rfl ?_
    unfold firstJ; rw [if_pos h2]; rfl
   ·have h2 : ¬ i < 0 := by simpa using c2
    have hil : i.toNat < B.insts.length := by omega
    obtain ⟨x, hx⟩ : ∃ x, B.insts[i.toNat] = x := ⟨_, rfl⟩
    have hxg : B.insts[i.toNat]? = some x := by rw [qq hil, hx]
    have hxm : x ∈ B.insts := hx ▸ qu hil
    have hO : instOf f (k : Int) i = x := by unfold instOf; rw [hI, hxg]; rfl
    have hal := hb4 x hxm
    have hIF := instP_F (hIn x hxm)
    refine z8 rfl rfl c2<|z2 (zMf rfl)<|z8 rfl rfl c2<|z2 (zMi rfl)<|z8 rfl rfl c2<|z2 (zIM i.toNat underlying52 sizeOf61 rfl rfl (by omega) hxg)<|z8 rfl rfl c2<|z2 (zFF underlying61 rfl sizeOf59 rfl rfl)<|z8 rfl rfl c2<|z2 (zLi isAgg59 rfl)<|z8 rfl rfl c2<|zf (chkOp_spec x.op) rfl<|z8 rfl rfl c2<|z2 (yl rfl)<|z2 (zPf rfl c2 rfl)<|z6<|zz rfl (fun c3=>?_) (fun c3=>?_)
    ·have h3 : ¬ (18 ≤ x.op ∧ x.op ≤ 24) := by intro h; rw [w3 h.1, w3 h.2] at c3; cases c3
     refine zSr<|z2 (zAi rfl)<|z2 (zAb rfl)<|z6<|zg<|afin.t2 (x := .int _ _) (y := .bool _) rfl rfl ?_
     unfold firstJ; rw [if_neg h2, hO, if_neg (fun h => h3 h.1)]; rfl
    ·have h3 : 18 ≤ x.op ∧ x.op ≤ 24 := by simpa using c3
     refine zh<|zSr<|z2 (Gv.func rfl rfl)<|z2 (q7 (v := .fn _ _ _) rfl)<|z6<|zd<|zSr<|z2 (zMf rfl)<|z2 (zMi rfl)<|z2 (zIM i.toNat underlying52 sizeOf61 rfl rfl (by omega) hxg)<|z2 (zFF underlying61 rfl sizeOf23 rfl rfl)<|z2 (zLf isAgg23 rfl)<|z2 (yq (v := .fn _ _ _) rfl)<|zf (containsFuncM_spec x.args (by omega) (fun v hv => pfirst2_spec f (k : Int) v (hIF.args v hv))) rfl<|z6<|zz rfl (fun c4=>?_) (fun c4=>?_)
     ·refine zSr<|z2 (zAi rfl)<|z2 (zAb rfl)<|z6<|zg<|afin.t2 (x := .int _ _) (y := .bool _) rfl rfl ?_
      unfold firstJ; rw [if_neg h2, hO, if_neg (fun h => by rw [h.2] at c4; cases c4)]; rfl
     ·refine zh<|zSr<|z2 (zMi rfl)<|z2 (zAi rfl)<|z2 (zAb rfl)<|z6<|zg<|afin.t2 (x := .int _ _) (y := .bool _) rfl rfl ?_
      unfold firstJ; rw [if_neg h2, hO, if_pos ⟨h3, by simpa using c4⟩, Int.max_eq_left (by omega), w3 (by omega)]
end Go.Proofs.YtiojekbkamegdaaGreatDoor
namespace Go.Proofs.YtiojekbkamegdaaGreatDoor
open Go.Proofs.Tryz
open Go.Proofs Go.Lib Go.Shelf Go.RowKit
theorem pl61 : Places prog 61 #[(0, 1), (1, 1), (2, 1), (3, 1)] [.int .i64 0, .int .i64 0, .raw (.slice none 0 0), .int .i64 0] := ⟨_, _, underlying61, zeroValue61, fun w => by kernel_rfl, rfl⟩
variable {E : World}
set_option maxRecDepth 20000
theorem eq_plc (a b c d : Int) (w : World) : (Op.equalIn 10000 144 (.agg [.int .i64 a, .int .i64 b].toArray) (.agg [.int .i64 c, .int .i64 d].toArray)).run prog w = .ok (decide (a = c ∧ b = d)) w := by
 have hS : prog.underlying 144 = some (.struct (prog.fieldsOf 144)) := by kernel_rfl
 have hp : prog.stoodInHeld 144 = false := by kernel_rfl
 rw [show (10000 : Nat) = 9999 + 1 from rfl, run_equalIn_agg w 9999 _ _ _ hS hp]
 simp only [Program.fieldsOf, underlying144]
 simp [Op.eqFields, part, isAgg3, run_equalIn_int, underlying3]
 by_cases h1 : a = c <;> by_cases h2 : b = d <;> simp [h1, h2]
theorem find_none {α : Type} {p : α → Bool} {l : List α} (h : l.any p = false) : l.find? p = none := by
 rw [List.find?_eq_none]; intro x hx; rw [List.any_eq_false] at h; exact h x hx
theorem find_first {α : Type} {p : α → Bool} : ∀ {l : List α} {k : Nat} (h : k < l.length), (l.take k).any p = false → p l[k] = true → l.find? p = some l[k]
 | [], k, h, _, _ => by simp at h
 | x :: l, 0, _, _, h2 => by rw [List.find?_cons]; simp at h2; rw [h2]; rfl
 | x :: l, k + 1, h, h1, h2 => by
  simp only [List.take_succ_cons, List.any_cons, Bool.or_eq_false_iff] at h1
  rw [List.find?_cons, h1.1]
  exact find_first (by simpa using h) h1.2 (by simpa using h2)
set_option maxHeartbeats 4000000 in
theorem pfrom_spec (f : PFunc) (hf : small f) (hS : ShapedP f) (k : Nat) (a p : Int) (B : PBlock) (hget : f.blocks[k]? = some B) (h0 : 0 ≤ a) (ha : a < B.insts.length) :
  AFun prog E 112 [.pf (workL f), .int .i64 k, .int .i64 a, .int .i64 p] (.agg (encInst (fromF f k a p))) := by
 have hmem : B ∈ f.blocks := qy hget
 obtain ⟨hb0, hb1, hb2, hb3, hb4⟩ := hf.2.2.2.2 B hmem
 obtain ⟨hPh, hIn, hTm⟩ := hS.2.2.2.2.2 B hmem
 obtain ⟨x, hx⟩ : ∃ x, B.insts[a.toNat]'(by omega) = x := ⟨_, rfl⟩
 have hxg : B.insts[a.toNat]? = some x := by rw [qq (by omega), hx]
 have hal := hb4 x (qy hxg)
 have hI : instsAt f (k : Int) = B.insts := by unfold instsAt; rw [show ((k : Int)).toNat = k from rfl, hget]; rfl
 have hP : phisAt f (k : Int) = B.phis := by unfold phisAt; rw [show ((k : Int)).toNat = k from rfl, hget]; rfl
 have hO : instOf f (k : Int) a = x := by unfold instOf; rw [hI, hxg]; rfl
 have hF : fromF f k a p = ⟨x.op, -1, x.args.map (toV B.phis p), 0⟩ := by unfold fromF; rw [hO, hP]
 rw [hF]
 refine zo func112 rfl (by decide) rfl<|zSr<|zy (cs := [.int .i64 0, .int .i64 0, .raw (.slice none 0 0), .int .i64 0]) zeroValue61 rfl rfl<|fun i8 => z6<|zSr<|z2 (zMg rfl)<|z2 (yx rfl)<|z2 (zFF underlying184 rfl sizeOf26 rfl rfl)<|z2 (zFF underlying26 rfl sizeOf24 rfl rfl)<|z2 (zLf isAgg24 rfl)<|z2 (zMi rfl)<|z2 (zIM k underlying24 sizeOf58 rfl rfl rfl hget)<|z2 (zFF underlying58 rfl sizeOf52 rfl rfl)<|z2 (zLf isAgg52 rfl)<|z2 (zMi rfl)<|z2 (zIM a.toNat underlying52 sizeOf61 rfl rfl (by omega) hxg)<|z2 (zp isAgg61 sizeOf61 rfl rfl)<|zy (cs := [.int .i64 0, .int .i64 0, .raw (.slice none 0 0), .int .i64 0]) zeroValue61 rfl rfl<|fun i9 => zq sizeOf61 rfl rfl rfl rfl rfl rfl .head rfl<|zc (yk (t := 9) rfl .head)<|z6<|zSr<|z2 (zFF underlying61 rfl sizeOf59 rfl rfl)<|z2 (zLi isAgg59 rfl)<|z2 (zx (cps := [(0, [_]), (1, [_])]) (rs := [_, _, .raw (.slice none 0 0), .int .i64 0]) pl61 rfl rfl rfl)<|zy (cs := [.int .i64 0, .int .i64 0, .raw (.slice none 0 0), .int .i64 0]) zeroValue61 rfl rfl<|fun i10 => zq sizeOf61 rfl rfl rfl rfl rfl rfl .head rfl<|z6<|adoptC_wp (off := 2) (k := 1) (T := 3) (fun _ => .head) rfl<|fun ia => yc (za (zb .t1))<|zd<|zSr<|z2 (zFF underlying61 rfl sizeOf23 rfl rfl)<|z2 (zLf isAgg23 rfl)<|z2 (y2 underlying23 rfl)<|z2 (zMi rfl)<|z6 ?_
 refine zi<|y5 (γ := Nat × Nat) [0, 1, 3, 8, 10, 32, 33] (fun g => [(34, .int .i64 g.1)]) (fun g => [(i10, .cells 61 [.int .i64 x.op, .int .i64 (-1), .own g.2 g.1, .int .i64 0]), (g.2, .grow 1 3 (((x.args.take g.1).map (toV B.phis p)).map encI).flatten), (i8, .cells 61 [.int .i64 0, .int .i64 0, .raw (.slice none 0 0), .int .i64 0])]) (fun g => g.1 ≤ x.args.length) (fun g => x.args.length - g.1) (0, ia) zR1 zLe (qt _) ?_
 rintro ⟨j, ia⟩ hj
 try dsimp only at *
 refine zSr<|z2 (yb rfl rfl)<|z6<|zd<|zr rfl (fun cj=>?_) (fun cj=>?_)
 ·have hj2 : j < x.args.length := by simp at cj; omega
  obtain ⟨v, hv⟩ : ∃ v, x.args[j] = v := ⟨_, rfl⟩
  have hpush : ((((x.args.take j).map (toV B.phis p)).map encI).flatten ++ [[AV.int .i64 (toV B.phis p v)]].flatten) = (((x.args.take (j + 1)).map (toV B.phis p)).map encI).flatten := by
   rw [qr hj2, hv]; simp [encI]
  have hlen : (((x.args.take j).map (toV B.phis p)).map encI).flatten.length = j * 1 := by rw [grow_len (k := 1) (fun _ => rfl), qx, qz, Nat.min_eq_left hj]
  refine zh<|zd<|zi<|zSr<|z2 (zIM j underlying23 sizeOf3 rfl rfl rfl (show x.args[j]? = some v by rw [qq hj2, hv]))<|z2 (zLi isAgg3 rfl)<|z2 (zAi rfl)<|z6<|zd<|zSr<|z2 (zMg rfl)<|z2 (yx rfl)<|z2 (zFF underlying184 rfl sizeOf26 rfl rfl)<|z2 (zFF underlying26 rfl sizeOf24 rfl rfl)<|z2 (zLf isAgg24 rfl)<|z2 (zMi rfl)<|z2 (zIM k underlying24 sizeOf58 rfl rfl rfl hget)<|z2 (zFF underlying58 rfl sizeOf51 rfl rfl)<|z2 (zLf isAgg51 rfl)<|z2 (y2 underlying51 rfl)<|z2 (zMi rfl)<|z6<|yp (γ := Int) [0, 1, 3, 8, 10, 32, 33, 34] (fun y => [(12, .int .i64 y)]) (fun y => [(i10, .cells 61 [.int .i64 x.op, .int .i64 (-1), .own ia j, .int .i64 0]), (ia, .grow 1 3 (((x.args.take j).map (toV B.phis p)).map encI).flatten), (i8, .cells 61 [.int .i64 0, .int .i64 0, .raw (.slice none 0 0), .int .i64 0])]) (fun y => y = toV B.phis p v) ?_ (fun _ _ h => h) ?_
  ·refine zi<|y5 (γ := Nat) [0, 1, 3, 8, 10, 32, 33, 34, 46, 47] (fun q => [(48, .int .i64 q), (12, .int .i64 v)]) (fun q => [(i10, .cells 61 [.int .i64 x.op, .int .i64 (-1), .own ia j, .int .i64 0]), (ia, .grow 1 3 (((x.args.take j).map (toV B.phis p)).map encI).flatten), (i8, .cells 61 [.int .i64 0, .int .i64 0, .raw (.slice none 0 0), .int .i64 0])]) (fun q => q ≤ B.phis.length ∧ (B.phis.take q).any (comesB p v) = false) (fun q => B.phis.length - q) 0 zR2 zLe (⟨qt _, rfl⟩) ?_
   rintro q ⟨hq, hno⟩
   refine zSr<|z2 (yb rfl rfl)<|z6<|zd<|zr rfl (fun cq=>?_) (fun cq=>?_)
   ·have hq2 : q < B.phis.length := by simp at cq; omega
    obtain ⟨ph, hph⟩ : ∃ ph, B.phis[q] = ph := ⟨_, rfl⟩
    have hphm : ph ∈ B.phis := hph ▸ qu hq2
    obtain ⟨hpd, hpl, hpn, hpa, hpf⟩ := hPh ph hphm
    have hpb := hb3 ph hphm
    have hix := firstI_rng (fun x => decide (p = x)) ph.from_ 0
    obtain ⟨ix, hixe⟩ : ∃ ix, ixF ph.from_ p = ix := ⟨_, rfl⟩
    have hixe2 : firstI (fun x => decide (p = x)) ph.from_ 0 = ix := hixe
    rw [hixe2] at hix
    refine zh<|zd<|zi<|zSr<|z2 (zIM q underlying51 sizeOf81 rfl rfl rfl (by rw [qq hq2, hph])) ?_
    refine z2 (zp isAgg81 sizeOf81 rfl rfl)<|zy (cs := [.int .i64 0, .raw (.slice none 0 0), .raw (.slice none 0 0)]) zeroValue81 rfl rfl<|fun i14 => zq sizeOf81 rfl rfl rfl rfl rfl rfl .head rfl<|zc (yk (t := 14) rfl .head)<|z6<|zSr<|z2 (zFF underlying81 rfl sizeOf23 rfl rfl)<|z2 (zLf isAgg23 rfl)<|z2 (zMi rfl)<|zf ((hixe2 ▸ indexZ_spec ph.from_ p (by omega))) rfl<|z2 (zAi rfl)<|z6<|zSr<|z2 (zFF underlying81 rfl sizeOf3 rfl rfl)<|z2 (zLi isAgg3 rfl)<|z2 (zMi rfl)<|z2 (y7 rfl rfl)<|z2 (zMb rfl)<|zt (s := 60) rfl (fun c1=>?_) (fun c1=>?_)
    ·have d1 : ph.dst = v := by simpa using c1
     refine z8 rfl rfl c1<|z2 (zMi rfl)<|z8 rfl rfl c1<|z2 (q6 rfl rfl)<|z2 (zPt rfl c1 rfl)<|z6<|zz rfl (fun c2=>?_) (fun c2=>?_)
     ·have d2 : 0 ≤ ix := by simpa using c2
      obtain ⟨y, hy⟩ : ∃ y, ph.args[ix.toNat]'(by omega) = y := ⟨_, rfl⟩
      refine zSr<|z2 (zFF underlying81 rfl sizeOf23 rfl rfl)<|z2 (zLf isAgg23 rfl)<|z2 (zMi rfl)<|z2 (zIM ix.toNat underlying23 sizeOf3 rfl rfl (by omega) (by rw [qq (by omega), hy])) ?_
      refine z2 (zLi isAgg3 rfl)<|z2 (zAi rfl)<|z6<|y4 ?_
      exact ⟨y, zR8, zR1, zLe, by unfold toV; rw [find_first hq2 hno (by rw [hph]; unfold comesB; rw [hixe, w3 d1, w3 d2]; rfl), hph]; show y = (ph.args[(ixF ph.from_ p).toNat]?).getD v; rw [hixe, qq (by omega), hy]; rfl⟩
     ·have d2 : ¬ 0 ≤ ix := by simpa using c2
      refine zh<|zRg<|z2 (zAd rfl rfl)<|z2 (zMi rfl)<|z6 ?_
      exact ⟨q + 1, zR10, zR2, zLe, ⟨hq2, any_take hq2 hno (by rw [hph]; unfold comesB; rw [hixe, w4 d2, Bool.and_false])⟩, by omega⟩
    ·have d1 : ¬ ph.dst = v := by simpa using c1
     refine z7 rfl rfl c1<|z7 rfl rfl c1<|z2 (zPf rfl c1 rfl)<|z6<|ym rfl rfl<|zh<|zRg<|z2 (zAd rfl rfl)<|z2 (zMi rfl)<|z6 ?_
     exact ⟨q + 1, zR10, zR2, zLe, ⟨hq2, any_take hq2 hno (by rw [hph]; unfold comesB; rw [w4 d1]; rfl)⟩, by omega⟩
   ·have hqn : q = B.phis.length := by simp at cq; omega
    subst hqn
    rw [qv] at hno
    refine y4 ?_
    exact ⟨v, zR8, zR1, zLe, by unfold toV; rw [find_none hno]; rfl⟩
  ·rintro y hy
   subst hy
   refine zRg<|z2 (ze underlying61 rfl sizeOf23 (by decide) rfl rfl)<|z2 (zl (c := .own _ _) isAgg23 rfl ⟨_, .head⟩ rfl)<|z2 (zMi rfl)<|zw (rows := [[_]]) ps23_1 rfl rfl rfl rfl rfl<|yg (k := 1) underlying23 type3 rfl rfl rfl rfl rfl (fun _ => .t1) hlen (by decide) rfl (by show (_ + 1) * 8 ≤ _; omega) (by show _ + 1 ≤ _; omega)<|fun i74 => z2 (ze underlying61 rfl sizeOf23 (by decide) rfl rfl)<|yn (l := [_]) (new := [_, _, _, _]) sizeOf23 rfl rfl rfl rfl rfl rfl .head rfl rfl<|z6<|zRg<|z2 (zAd rfl rfl)<|z2 (zMi rfl)<|z6 ?_
   exact ⟨(j + 1, i74), zR7, zR1, ⟨_, (.refl _), by rw [← hpush]; rfl⟩, hj2, by dsimp only; omega⟩
 ·have hjn : j = x.args.length := by simp at cj; omega
  subst hjn
  rw [qv]
  refine y4<|yc (qf (off := 2) (rows := (x.args.map (toV B.phis p)).map encI) .t1 .head rfl (by simp [encI, encVar, encPhi, encInst, encBlk]) (by decide) (by simp))<|zSr<|z2 (q9 isAgg61 sizeOf61 rfl ⟨_, .head⟩ rfl)<|zq sizeOf61 rfl rfl rfl rfl rfl rfl .t1 rfl<|z6<|zg<|afin.c1 rfl ⟨_, .t1⟩ isAgg61 sizeOf61 rfl ?_
  rfl
theorem pass_take {f : PFunc} {x : PInst} {i : Nat} {p : Int} {own : Plc} {l : List PInst} {k : Nat} (h : k < l.length) (h1 : (l.take k).zipIdx.any (passQ f x i p own) = false) (h2 : passQ f x i p own (l[k], k) = false) : (l.take (k + 1)).zipIdx.any (passQ f x i p own) = false := by
 rw [zipTake h, List.any_append, h1]; simp [h2]
theorem pass_hit {f : PFunc} {x : PInst} {i : Nat} {p : Int} {own : Plc} {l : List PInst} {k : Nat} (h : k < l.length) (h2 : passQ f x i p own (l[k], k) = true) : l.zipIdx.any (passQ f x i p own) = true :=
 List.any_eq_true.2 ⟨(l[k], k), List.mem_zipIdx_iff_getElem?.2 (qq h), h2⟩
set_option maxHeartbeats 4000000 in
theorem ppassed_spec (f : PFunc) (hf : small f) (hE : EndsOk f) (x : PInst) (hx : x.args.length ≤ 1000) (p : Int) (own : Plc) (C : PBlock) (h0 : 0 ≤ p) (hpC : f.blocks[p.toNat]? = some C) :
  AFun prog E 113 [.pf (workL f), .agg (encInst x), .int .i64 p, .agg [.int .i64 own.1, .int .i64 own.2]] (.bool (passF f x p own)) := by
 obtain ⟨o1, o2⟩ := own
 dsimp only
 have hn := hf.2.2.1
 have hla : lenAt f p = C.insts.length := by unfold lenAt; rw [hpC]; rfl
 have hCl := (hf.2.2.2.2 C (qy hpC)).2.2.1
 refine zo func113 rfl (by decide) rfl<|zSr<|y9 (cs := _) rfl rfl rfl<|y9 (cs := _) rfl rfl rfl<|z2 (zAb rfl)<|z6<|zd<|zSr<|z2 (zMg rfl)<|z2 (yx rfl)<|z2 (zFF underlying184 rfl sizeOf26 rfl rfl)<|z2 (zFF underlying26 rfl sizeOf24 rfl rfl)<|z2 (zLf isAgg24 rfl)<|z2 (y2 underlying24 rfl)<|z2 (zMi rfl)<|z6<|zi<|y5 (γ := Nat) [0, 2, 5, 7, 18, 19] (fun i => [(20, .int .i64 i)]) (fun i => []) (fun i => i ≤ f.blocks.length ∧ (List.range i).any (passI f x p (o1, o2)) = false) (fun i => f.blocks.length - i) 0 zR1 zLe (⟨qt _, rfl⟩) ?_
 rintro i ⟨hi, hno⟩
 refine zSr<|z2 (yb rfl rfl)<|z6<|zd<|zr rfl (fun ci=>?_) (fun ci=>?_)
 ·have hi2 : i < f.blocks.length := by simp at ci; omega
  obtain ⟨b, hbi⟩ : ∃ b, f.blocks[i] = b := ⟨_, rfl⟩
  have hget : f.blocks[i]? = some b := by rw [qq hi2, hbi]
  obtain ⟨hb0, hb1, hb2, hb3, hb4⟩ := hf.2.2.2.2 b (hbi ▸ qu hi2)
  refine zh<|zd<|zi<|zSr<|z2 (zMi rfl)<|z2 (zIM i underlying24 sizeOf58 rfl rfl rfl hget)<|z2 (zp isAgg58 sizeOf58 rfl rfl)<|zy (cs := [.str ⟨#[]⟩, .raw (.slice none 0 0), .raw (.slice none 0 0), .int .i64 0, .int .i64 0, .int .i64 0, .int .i64 0]) zeroValue58 rfl rfl<|fun i10 => z2 (zAi rfl)<|zq sizeOf58 rfl rfl rfl rfl rfl rfl .head rfl<|zc (yk (t := 10) rfl .head)<|z6<|zSr<|z2 (zFF underlying58 rfl sizeOf52 rfl rfl)<|z2 (zLf isAgg52 rfl)<|z2 (y2 underlying52 rfl)<|z2 (zMi rfl)<|z6<|zi<|y5 (γ := Nat) [0, 2, 5, 7, 9, 18, 19, 20, 26, 27] (fun k => [(28, .int .i64 k)]) (fun k => []) (fun k => k ≤ b.insts.length ∧ (b.insts.take k).zipIdx.any (passQ f x i p (o1, o2)) = false) (fun k => b.insts.length - k) 0 zR1 zLe (⟨qt _, rfl⟩) ?_
  rintro k ⟨hk, hkno⟩
  refine zSr<|z2 (yb rfl rfl)<|z6<|zd<|zr rfl (fun ck=>?_) (fun ck=>?_)
  ·have hk2 : k < b.insts.length := by simp at ck; omega
   obtain ⟨y, hy⟩ : ∃ y, b.insts[k] = y := ⟨_, rfl⟩
   have hyl := hb4 y (hy ▸ qu hk2)
   have hQ : passQ f x i p (o1, o2) (b.insts[k], k) = (decide (y.op = x.op) && (decide (y.args = x.args) && (!decide (((i : Int), (k : Int)) = (o1, o2)) && aheadB f ((i : Int), (k : Int)) p (C.insts.length : Int)))) := by rw [hy]; unfold passQ; rw [hla]
   refine zh<|zd<|zi<|zSr<|z2 (zMi rfl)<|z2 (zIM k underlying52 sizeOf61 rfl rfl rfl (by rw [qq hk2, hy])) ?_
   refine z2 (zp isAgg61 sizeOf61 rfl rfl)<|zy (cs := [.int .i64 0, .int .i64 0, .raw (.slice none 0 0), .int .i64 0]) zeroValue61 rfl rfl<|fun i12 => z2 (zAi rfl)<|zq sizeOf61 rfl rfl rfl rfl rfl rfl .head rfl<|zc (yk (t := 12) rfl .head)<|z6<|zSr<|z2 (zMi rfl)<|z2 (zMi rfl)<|z2 (zx (cps := [(0, [_]), (1, [_])]) (rs := [_, _]) pl144 rfl rfl rfl)<|zy (cs := [.int .i64 0, .int .i64 0]) zeroValue144 rfl rfl<|fun i13 => zq sizeOf144 rfl rfl rfl rfl rfl rfl .head rfl<|zc (yk (t := 13) rfl .head)<|z6<|zd<|yp (γ := Bool) [0, 2, 5, 7, 9, 18, 19, 20, 26, 27, 28] (fun u => [(71, .bool u)]) (fun u => []) (fun u => u = passQ f x i p (o1, o2) (b.insts[k], k)) ?_ (fun _ _ h => h) ?_
   ·refine zu (fun j => false) (by kernel_rfl) rfl (zm (.rest _))<|zTk 0 rfl (zFF underlying61 rfl sizeOf59 rfl rfl)<|zTk 1 rfl (zLi isAgg59 rfl)<|zTk 2 rfl (zFF underlying61 rfl sizeOf59 rfl rfl)<|zTk 3 rfl (zLi isAgg59 rfl)<|zTk 4 rfl (y7 rfl rfl)<|zTk 5 rfl (zMb rfl)<|qh (s := 41) rfl (fun c1=>?_) (fun c1=>?_)
    ·refine zTt 6 rfl rfl rfl c1 (zFF underlying61 rfl sizeOf23 rfl rfl)<|zTt 7 rfl rfl rfl c1 (zLf isAgg23 rfl)<|zTt 8 rfl rfl rfl c1 (zFF underlying61 rfl sizeOf23 rfl rfl)<|zTt 9 rfl rfl rfl c1 (zLf isAgg23 rfl)<|zOn 10 rfl<|z8 rfl rfl c1<|zf (equalI_spec y.args x.args (by unfold okL; omega)) rfl<|z6<|zTk 11 rfl (zPt rfl c1 rfl)<|zTk 12 rfl (zMb rfl)<|qh (s := 48) rfl (fun c2=>?_) (fun c2=>?_)
     ·refine zTt 13 rfl rfl rfl c2 (zp isAgg144 sizeOf144 rfl rfl)<|zTt 14 rfl rfl rfl c2 (zp isAgg144 sizeOf144 rfl rfl)<|zTt 15 rfl rfl rfl c2 (Gv.neqP (xs := [.int _ _, .int _ _]) (ys := [.int _ _, .int _ _]) (by kernel_rfl) rfl rfl (fun w => eq_plc _ _ _ _ w))<|zTk 16 rfl (zPt rfl c2 rfl)<|zTk 17 rfl (zMb rfl)<|qh (s := 53) rfl (fun c3=>?_) (fun c3=>?_)
      ·refine zTt 18 rfl rfl rfl c3 (zMg rfl)<|zTt 19 rfl rfl rfl c3 (yx rfl)<|zTt 20 rfl rfl rfl c3 (zFF underlying184 rfl sizeOf83 rfl rfl)<|zTt 21 rfl rfl rfl c3 (qa (c := .pf _) isAgg83 rfl)<|zTt 22 rfl rfl rfl c3 (zp isAgg144 sizeOf144 rfl rfl)<|zTt 23 rfl rfl rfl c3 (zMi rfl)<|zTt 24 rfl rfl rfl c3 (zMg rfl)<|zTt 25 rfl rfl rfl c3 (yx rfl)<|zTt 26 rfl rfl rfl c3 (zFF underlying184 rfl sizeOf26 rfl rfl)<|zTt 27 rfl rfl rfl c3 (zFF underlying26 rfl sizeOf24 rfl rfl)<|zTt 28 rfl rfl rfl c3 (zLf isAgg24 rfl)<|zTt 29 rfl rfl rfl c3 (zMi rfl)<|zTt 30 rfl rfl rfl c3 (zIM p.toNat underlying24 sizeOf58 rfl rfl (by omega) hpC)<|zTt 31 rfl rfl rfl c3 (zFF underlying58 rfl sizeOf52 rfl rfl)<|zTt 32 rfl rfl rfl c3 (zLf isAgg52 rfl)<|zTt 33 rfl rfl rfl c3 (y2 underlying52 rfl)<|zOn 34 rfl<|z8 rfl rfl c3<|zf (ahead_spec f hE hn ((i : Int), (k : Int)) p C.insts.length (froN eI (kidsR f)) .any) rfl<|z6<|zTk 35 rfl (zPt rfl c3 rfl)<|zDn ?_
       exact ⟨_, zR11, zR1, zLe, by rw [hQ]; simp_all⟩
      ·refine zTf 18 rfl rfl rfl c3<|zTf 19 rfl rfl rfl c3<|zTf 20 rfl rfl rfl c3<|zTf 21 rfl rfl rfl c3<|zTf 22 rfl rfl rfl c3<|zTf 23 rfl rfl rfl c3<|zTf 24 rfl rfl rfl c3<|zTf 25 rfl rfl rfl c3<|zTf 26 rfl rfl rfl c3<|zTf 27 rfl rfl rfl c3<|zTf 28 rfl rfl rfl c3<|zTf 29 rfl rfl rfl c3<|zTf 30 rfl rfl rfl c3<|zTf 31 rfl rfl rfl c3<|zTf 32 rfl rfl rfl c3<|zTf 33 rfl rfl rfl c3<|zTf 34 rfl rfl rfl c3<|zTk 35 rfl (zPf rfl c3 rfl)<|zDn ?_
       exact ⟨_, zR11, zR1, zLe, by rw [hQ]; simp_all⟩
     ·refine zTf 13 rfl rfl rfl c2<|zTf 14 rfl rfl rfl c2<|zTf 15 rfl rfl rfl c2<|zTk 16 rfl (zPf rfl c2 rfl)<|zTk 17 rfl (zMb rfl)<|zTf 18 rfl rfl rfl rfl<|zTf 19 rfl rfl rfl rfl<|zTf 20 rfl rfl rfl rfl<|zTf 21 rfl rfl rfl rfl<|zTf 22 rfl rfl rfl rfl<|zTf 23 rfl rfl rfl rfl<|zTf 24 rfl rfl rfl rfl<|zTf 25 rfl rfl rfl rfl<|zTf 26 rfl rfl rfl rfl<|zTf 27 rfl rfl rfl rfl<|zTf 28 rfl rfl rfl rfl<|zTf 29 rfl rfl rfl rfl<|zTf 30 rfl rfl rfl rfl<|zTf 31 rfl rfl rfl rfl<|zTf 32 rfl rfl rfl rfl<|zTf 33 rfl rfl rfl rfl<|zTf 34 rfl rfl rfl rfl<|zTk 35 rfl (zPf rfl rfl rfl)<|zDn ?_
      exact ⟨_, zR11, zR1, zLe, by rw [hQ]; simp_all⟩
    ·refine zTf 6 rfl rfl rfl c1<|zTf 7 rfl rfl rfl c1<|zTf 8 rfl rfl rfl c1<|zTf 9 rfl rfl rfl c1<|zTf 10 rfl rfl rfl c1<|zTk 11 rfl (zPf rfl c1 rfl)<|zTk 12 rfl (zMb rfl)<|zTf 13 rfl rfl rfl rfl<|zTf 14 rfl rfl rfl rfl<|zTf 15 rfl rfl rfl rfl<|zTk 16 rfl (zPf rfl rfl rfl)<|zTk 17 rfl (zMb rfl)<|zTf 18 rfl rfl rfl rfl<|zTf 19 rfl rfl rfl rfl<|zTf 20 rfl rfl rfl rfl<|zTf 21 rfl rfl rfl rfl<|zTf 22 rfl rfl rfl rfl<|zTf 23 rfl rfl rfl rfl<|zTf 24 rfl rfl rfl rfl<|zTf 25 rfl rfl rfl rfl<|zTf 26 rfl rfl rfl rfl<|zTf 27 rfl rfl rfl rfl<|zTf 28 rfl rfl rfl rfl<|zTf 29 rfl rfl rfl rfl<|zTf 30 rfl rfl rfl rfl<|zTf 31 rfl rfl rfl rfl<|zTf 32 rfl rfl rfl rfl<|zTf 33 rfl rfl rfl rfl<|zTf 34 rfl rfl rfl rfl<|zTk 35 rfl (zPf rfl rfl rfl)<|zDn ?_
     exact ⟨_, zR11, zR1, zLe, by rw [hQ]; simp_all⟩
   ·rintro u hu
    subst hu
    refine zz rfl (fun ch=>?_) (fun ch=>?_)
    ·refine zSr<|z2 (zAb rfl)<|z6<|zg<|zk (x := .bool _) rfl ?_
     rw [passF, range_any_hit hi2 (by rw [passI_at hget]; exact pass_hit hk2 ch)]
    ·refine zh<|zRg<|z2 (zAd rfl rfl)<|z2 (zMi rfl)<|z6 ?_
     exact ⟨k + 1, zR10, zR1, zLe, ⟨hk2, pass_take hk2 hkno (by simpa using ch)⟩, by omega⟩
  ·have hkn : k = b.insts.length := by simp at ck; omega
   subst hkn
   rw [qv] at hkno
   refine y4<|zRg<|z2 (zAd rfl rfl)<|z2 (zMi rfl)<|z6 ?_
   exact ⟨i + 1, zR6, zR1, zLe, ⟨hi2, range_any_succ hno (by rw [passI_at hget]; exact hkno)⟩, by omega⟩
 ·have hin : i = f.blocks.length := by simp at ci; omega
  subst hin
  refine y4<|zSr<|z2 (zAb rfl)<|z6<|zg<|zk (x := .bool _) rfl ?_
  rw [passF, hno]
end Go.Proofs.YtiojekbkamegdaaGreatDoor
namespace Go.Proofs.YtiojekbkamegdaaGreatDoor
open Go.Proofs.Tryz
variable {α : Type}
def mg (k : Int) : List (Int × List α) → List α
 | [] => []
 | (k', r) :: es => if k = k' then r else mg k es
def ms (k : Int) (r : List α) : List (Int × List α) → List (Int × List α)
 | [] => [(k, r)]
 | (k', r') :: es => if k = k' then (k, r) :: es else (k', r') :: ms k r es
def kv (k : Int) : Value := .int .i64 k
theorem kv_now (k k' : Int) : Instr.sameNow (.int .i64) (kv k) (kv k') = some (decide (k = k')) := by
 simp [Instr.sameNow, kv]; by_cases h : k = k' <;> simp [h]
inductive MapR (c : Enc α) (e : TypeId) : List (Int × List α) → List (Value × Value) → List (Nat × Obj) → Prop
 | nil : MapR c e [] [] []
 | cons {k r es a n cap hs A B} : OwnS c.k e a n cap (c.vs r) A → MapR c e es hs B → MapR c e ((k, r) :: es) ((kv k, .slice a n cap) :: hs) (A ++ B)
theorem MapR.get {c : Enc α} {e : TypeId} {k : Int} : ∀ {l : List MapEntry} {es : List (Int × List α)} {L : List (Nat × Obj)} (i : Nat), MapR c e es (l.map fun e => (e.key, e.val)) L →
  (Instr.findNow (.int .i64) (kv k) l i = some none ∧ mg k es = [] ∧ ∀ r' a' n' c' A', OwnS c.k e a' n' c' (c.vs r') A' → ∃ L', MapR c e (ms k r' es) (l.map (fun e => (e.key, e.val)) ++ [(kv k, .slice a' n' c')]) L' ∧ L'.Perm (A' ++ L)) ∨
  (∃ j e0 a n cap A B, Instr.findNow (.int .i64) (kv k) l i = some (some (i + j, .slice a n cap)) ∧ l[j]? = some e0 ∧ e0.key = kv k ∧ OwnS c.k e a n cap (c.vs (mg k es)) A ∧ L.Perm (A ++ B) ∧
   ∀ r' a' n' c' A', OwnS c.k e a' n' c' (c.vs r') A' → ∃ L', MapR c e (ms k r' es) ((l.map fun e => (e.key, e.val)).set j (kv k, .slice a' n' c')) L' ∧ L'.Perm (A' ++ B))
 | [], es, L, i, h => by
  cases h
  exact .inl ⟨rfl, rfl, fun r' a' n' c' A' h => ⟨_, by simpa [ms] using MapR.cons (k := k) h .nil, by simp⟩⟩
 | x :: l, es, L, i, h => by
  generalize hl : ((x :: l).map fun e => (e.key, e.val)) = hs0 at h
  cases h with
  | nil => simp at hl
  | @cons k1 r es a n cap hs A B h1 h2 =>
   simp only [List.map_cons, List.cons.injEq, Prod.mk.injEq] at hl
   obtain ⟨⟨hk, hv⟩, rfl⟩ := hl
   by_cases e1 : k = k1
   ·subst e1
    right
    refine ⟨0, x, a, n, cap, A, B, ?_, rfl, hk, by simpa [mg] using h1, .refl _, fun r' a' n' c' A' h => ⟨A' ++ B, ?_, .refl _⟩⟩
    ·unfold Instr.findNow; rw [hk, kv_now, w3 rfl]; simp [hv]
    ·simp only [ms, if_pos, List.map_cons, List.set_cons_zero]
     exact .cons h h2
   ·have hf : Instr.findNow (.int .i64) (kv k) (x :: l) i = Instr.findNow (.int .i64) (kv k) l (i + 1) := by
     rw [Instr.findNow, hk, kv_now, w4 e1]
    have hg : mg k ((k1, r) :: es) = mg k es := by simp [mg, e1]
    have hms : ∀ r', ms k r' ((k1, r) :: es) = (k1, r) :: ms k r' es := fun r' => by simp [ms, e1]
    rw [hf, hg]
    rcases MapR.get (k := k) (i + 1) h2 with ⟨g1, g2, g3⟩ | ⟨j, e0, a1, n1, c1, A1, B1, g1, g2, g3, g4, g5, g6⟩
    ·left
     refine ⟨g1, g2, fun r' a' n' c' A' h => ?_⟩
     obtain ⟨L', q1, q2⟩ := g3 r' a' n' c' A' h
     refine ⟨A ++ L', ?_, ?_⟩
     ·rw [hms, List.cons_append]; exact .cons h1 q1
     ·refine (q2.append_left A).trans ?_
      rw [← qs, ← qs]
      exact List.perm_append_comm.append_right B
    ·right
     refine ⟨j + 1, e0, a1, n1, c1, A1, A ++ B1, by rw [g1]; congr 3; omega, by simpa using g2, g3, g4, ?_, fun r' a' n' c' A' h => ?_⟩
     ·refine (g5.append_left A).trans ?_
      rw [← qs, ← qs]
      exact List.perm_append_comm.append_right B1
     ·obtain ⟨L', q1, q2⟩ := g6 r' a' n' c' A' h
      refine ⟨A ++ L', ?_, ?_⟩
      ·rw [hms, List.set_cons_succ]; exact .cons h1 q1
      ·refine (q2.append_left A).trans ?_
       rw [← qs, ← qs]
       exact List.perm_append_comm.append_right B1
section
variable {E : World} {P : Program} {ops : Array Oper} {K : AEnv → OL → Prop} {env : AEnv} {O O' O'' : OL} {rest : List Oper} {n : Nat}
variable {d ty : Nat} {pos : String} {af : Array Edge} {x y z : Operand} {t u e T kt : TypeId} {b : Nat}
def FroM (c : Enc α) (I : G) : List (Int × List α) → List (Value × Value) → Prop
 | [], hs => hs = []
 | (k, r) :: es, hs => ∃ v hs', hs = (kv k, v) :: hs' ∧ RepV I (.fro c.k (r.map c.row)) v ∧ FroM c I es hs'
theorem FroM.mono {c : Enc α} {I J : G} (h : I.le J) : ∀ {es : List (Int × List α)} {hs : List (Value × Value)}, FroM c I es hs → FroM c J es hs
 | [], _, e => e
 | (_, _) :: _, _, ⟨v, hs', e, h1, h2⟩ => ⟨v, hs', e, qg h _ _ h1, FroM.mono h h2⟩
theorem MapR.fro {c : Enc α} {I : G} {e : TypeId} {es : List (Int × List α)} {hs : List (Value × Value)} {B : List (Nat × Obj)} (h : MapR c e es hs B) (hI : ∀ x ∈ B, I.k x.1 = some x.2) : FroM c I es hs := by
 induction h with
 | nil => rfl
 | cons h1 _ ih => exact ⟨_, _, rfl, h1.fro fun x hx => hI x (List.mem_append_left _ hx), ih fun x hx => hI x (List.mem_append_right _ hx)⟩
theorem FroM.get {c : Enc α} {I : G} {k : Int} : ∀ {l : List MapEntry} {es : List (Int × List α)} (i : Nat), FroM c I es (l.map fun e => (e.key, e.val)) →
  (Instr.findNow (.int .i64) (kv k) l i = some none ∧ mg k es = []) ∨ (∃ j v, Instr.findNow (.int .i64) (kv k) l i = some (some (j, v)) ∧ RepV I (.fro c.k ((mg k es).map c.row)) v)
 | [], [], i, _ => .inl ⟨rfl, rfl⟩
 | _ :: _, [], _, h => by cases h
 | [], (_, _) :: _, _, ⟨_, _, e, _⟩ => by cases e
 | x :: l, (k1, r) :: es, i, ⟨v, hs', e, h1, h2⟩ => by
  simp only [List.map_cons, List.cons.injEq, Prod.mk.injEq] at e
  obtain ⟨⟨hk, hv⟩, rfl⟩ := e
  by_cases e1 : k = k1
  ·subst e1
   right
   refine ⟨i, v, ?_, by simpa [mg] using h1⟩
   unfold Instr.findNow; rw [hk, kv_now, w3 rfl]; simp [hv]
  ·have hf : Instr.findNow (.int .i64) (kv k) (x :: l) i = Instr.findNow (.int .i64) (kv k) l (i + 1) := by
    rw [Instr.findNow, hk, kv_now, w4 e1]
   rw [hf, show mg k ((k1, r) :: es) = mg k es by simp [mg, e1]]
   exact FroM.get (i + 1) h2
end
end Go.Proofs.YtiojekbkamegdaaGreatDoor
namespace Go.Proofs.YtiojekbkamegdaaGreatDoor
open Go.Proofs.Tryz
def hAdd (h : Rng × Bool) (n : Int) (fits : Bool) (e : Int) : Rng × Bool := (rJoin h.1 (rOf (if fits then n else e)), h.2 || !fits)
def h4 (h : Rng × Bool) (a b : Rng) (n : Int → Int → Int) (fit : Int → Int → Bool) (e : Int → Int → Int) : Rng × Bool :=
 hAdd (hAdd (hAdd (hAdd h (n a.1 b.1) (fit a.1 b.1) (e a.1 b.1)) (n a.1 b.2) (fit a.1 b.2) (e a.1 b.2)) (n a.2 b.1) (fit a.2 b.1) (e a.2 b.1)) (n a.2 b.2) (fit a.2 b.2) (e a.2 b.2)
instance (k : Nat) (x y : Int) : Decidable (fit3 k x y) := by unfold fit3 is64; infer_instance
instance (k : Nat) (a b : Rng) : Decidable (cornF k a b) := by unfold cornF; infer_instance
end Go.Proofs.YtiojekbkamegdaaGreatDoor
namespace Go.Proofs.YtiojekbkamegdaaGreatDoor
open Go.Proofs.Tryz
open Go.Proofs
theorem abs_wrap {x : Int} (h : is64 x) : (if x < 0 then IntKind.u64.wrap (0 - IntKind.u64.wrap x) else IntKind.u64.wrap x) = ((x.natAbs : Nat) : Int) := by
 unfold is64 at h
 unfold IntKind.wrap; simp [IntKind.bits, IntKind.signed]; split <;> omega
def encZ (r : Rng) : List AV := [.int .i64 r.1, .int .i64 r.2]
end Go.Proofs.YtiojekbkamegdaaGreatDoor
namespace Go.Proofs.YtiojekbkamegdaaGreatDoor
open Go.Proofs.Tryz
open Go.Proofs
theorem wrap_s (z : Int) : IntKind.i64.wrap z = (z + 9223372036854775808) % 18446744073709551616 - 9223372036854775808 := by
 unfold IntKind.wrap; simp [IntKind.bits, IntKind.signed]; (try split) <;> omega
theorem wrap_u (z : Int) : IntKind.u64.wrap z = z % 18446744073709551616 := by
 unfold IntKind.wrap; simp [IntKind.bits, IntKind.signed]
theorem wrapU_add (x y : Int) : IntKind.i64.wrap (IntKind.u64.wrap (IntKind.u64.wrap x + IntKind.u64.wrap y)) = IntKind.i64.wrap (x + y) := by
 simp only [wrap_s, wrap_u]; omega
theorem wrapU_sub (x y : Int) : IntKind.i64.wrap (IntKind.u64.wrap (IntKind.u64.wrap x - IntKind.u64.wrap y)) = IntKind.i64.wrap (x - y) := by
 simp only [wrap_s, wrap_u]; omega
theorem wrapU_mul (x y : Int) : IntKind.i64.wrap (IntKind.u64.wrap (IntKind.u64.wrap x * IntKind.u64.wrap y)) = IntKind.i64.wrap (x * y) := by
 simp only [wrap_s, wrap_u]
 rw [← Int.mul_emod]; omega
theorem wrapU_neg (x : Int) : IntKind.i64.wrap (IntKind.u64.wrap (0 - IntKind.u64.wrap x)) = IntKind.i64.wrap (x.tdiv (-1)) := by
 rw [show x.tdiv (-1) = -x by rw [Int.tdiv_neg, Int.tdiv_one]]
 simp only [wrap_s, wrap_u]; omega
theorem fitU {x y : Int} (hx : is64 x) (hx0 : x ≠ 0) (hy0 : y ≠ 0) : decide ((x.natAbs : Int) ≤ IntKind.u64.wrap ((if (decide (x < 0) == decide (y < 0)) = true then 9223372036854775807 else 9223372036854775808 : Int).tdiv (y.natAbs : Int))) = decide (fit3 2 x y) := by
 rw [decide_eq_decide, ← fitMul x y hx0 hy0]
 obtain ⟨l, hl⟩ : ∃ l : Nat, (if decide (x < 0) = decide (y < 0) then 9223372036854775807 else 9223372036854775808) = l := ⟨_, rfl⟩
 have hl2 : (if (decide (x < 0) == decide (y < 0)) = true then 9223372036854775807 else 9223372036854775808 : Int) = (l : Int) := by
  rw [← hl]
  by_cases h : decide (x < 0) = decide (y < 0)
  ·rw [if_pos h, if_pos (by simpa using h)]; rfl
  ·rw [if_neg h, if_neg (by simpa using h)]; rfl
 have hll : l ≤ 9223372036854775808 := by rw [← hl]; split <;> omega
 rw [hl, hl2, show ((l : Int)).tdiv (y.natAbs : Int) = ((l / y.natAbs : Nat) : Int) from rfl, wrap_u]
 have h3 := Nat.div_le_self l y.natAbs
 generalize l / y.natAbs = q at h3 ⊢
 omega
end Go.Proofs.YtiojekbkamegdaaGreatDoor
namespace Go.Proofs.YtiojekbkamegdaaGreatDoor
open Go.Proofs.Tryz
open Go.Proofs
def lC (l : List Rng) : List AV := eP.av l
theorem lC_len (l : List Rng) : (lC l).length = l.length * 2 := eP.av_len l
theorem lC_cons (r : Rng) (l : List Rng) : lC (r :: l) = .int .i64 r.1 :: .int .i64 r.2 :: lC l := rfl
theorem lC_drop : ∀ (l : List Rng) (j : Nat), (lC l).drop (j * 2) = lC (l.drop j)
 | l, 0 => by simp
 | [], j + 1 => by simp [lC, Enc.av]
 | r :: l, j + 1 => by
  rw [show (j + 1) * 2 = j * 2 + 1 + 1 by omega, lC_cons, List.drop_succ_cons, List.drop_succ_cons, lC_drop l j, List.drop_succ_cons]
theorem lC_get {l : List Rng} {j : Nat} {r : Rng} (h : l[j]? = some r) : (lC l).drop (j * 2) = .int .i64 r.1 :: .int .i64 r.2 :: lC (l.drop (j + 1)) := by
 obtain ⟨hj, e⟩ := List.getElem?_eq_some_iff.1 h
 rw [lC_drop, List.drop_eq_getElem_cons hj, e, lC_cons]
theorem lC_ne {l : List Rng} {j : Nat} (h : j < l.length) : lC l ≠ [] := fun e => by have := lC_len l; rw [e] at this; simp at this; omega
section
variable {E : World} {P : Program} {ops : Array Oper} {K : AEnv → OL → Prop} {env : AEnv} {O O' O'' : OL} {rest : List Oper} {n : Nat}
variable {d ty : Nat} {pos : String} {af : Array Edge} {x y z : Operand} {t u e T : TypeId}
theorem Gv.idxR {i n j : Nat} {a : Int} {T : TypeId} {l : List Rng} (ht : P.underlying t = some (.slice e)) (hs : ∀ w, (sizeOf e).run P w = .ok 2 w) (hx : aev env x = .own i n) (hy : aev env y = .int .i64 a) (hi : a = (j : Int)) (hO : Has O i (.grow 2 T (lC l))) (hn : l.length = n) (hj : j < n) :
  Gv P env O (Oper.mk (some d) (.indexAddr t x y) ty pos af none) (.po i (j * 2)) := Gv.idxO ht hs hx hy hi hO (lC_ne (j := j) (by omega)) hj
theorem Gv.loadR {i j : Nat} {T : TypeId} {l : List Rng} {r : Rng} (ha : ∀ w, (isAgg t).run P w = .ok true w) (hs : ∀ w, (sizeOf t).run P w = .ok 2 w) (hx : aev env x = .po i (j * 2)) (hO : Has O i (.grow 2 T (lC l))) (hv : l[j]? = some r) :
  Gv P env O (Oper.mk (some d) (.load t x) ty pos af none) (.agg (encZ r)) := by
 have hj := (List.getElem?_eq_some_iff.1 hv).1
 exact Gv.loadAG ha hs hx hO (lC_ne hj) (by rw [lC_len]; omega) (by rw [lC_get hv]; rfl)
end
structure RdL (P : Program) (te ee : TypeId) (Lv : AV) (ptr : Nat → AV) (i : Nat) (HL : AObj) (l : List Rng) : Prop where
 idx : ∀ {env : AEnv} {O : OL} {d ty : Nat} {pos : String} {af : Array Edge} {x y : Operand} {a : Int} {j : Nat}, aev env x = Lv → aev env y = .int .i64 a → a = (j : Int) → j < l.length → Has O i HL → Gv P env O (Oper.mk (some d) (.indexAddr te x y) ty pos af none) (ptr j)
 load : ∀ {env : AEnv} {O : OL} {d ty : Nat} {pos : String} {af : Array Edge} {x : Operand} {j : Nat} {r : Rng}, aev env x = ptr j → l[j]? = some r → Has O i HL → Gv P env O (Oper.mk (some d) (.load ee x) ty pos af none) (.agg (encZ r))
def ptrF (l : List Rng) (j : Nat) : AV := .pf (encZ ((l[j]?).getD noR))
def ptrO (i : Nat) (j : Nat) : AV := .po i (j * 2)
theorem RdL.fro {P : Program} {te ee : TypeId} (ht : P.underlying te = some (.slice ee)) (hs : ∀ w, (sizeOf ee).run P w = .ok 2 w) (ha : ∀ w, (isAgg ee).run P w = .ok true w) (i : Nat) (HL : AObj) (l : List Rng) : RdL P te ee (.fro 2 (l.map encZ)) (ptrF l) i HL l where
 idx hx hy hi hj _ := q5 ht hs hx hy hi (by rw [qq hj]; rfl)
 load hx hv _ := zp ha hs (cs := encZ _) (by rw [hx]; unfold ptrF; rw [hv]; rfl) rfl
theorem RdL.own {P : Program} {te ee : TypeId} (ht : P.underlying te = some (.slice ee)) (hs : ∀ w, (sizeOf ee).run P w = .ok 2 w) (ha : ∀ w, (isAgg ee).run P w = .ok true w) (i : Nat) (T : TypeId) (l : List Rng) (n : Nat) (hn : l.length = n) : RdL P te ee (.own i n) (ptrO i) i (.grow 2 T (lC l)) l where
 idx hx hy hi hj hO := Gv.idxR ht hs hx hy hi hO hn (by omega)
 load hx hv hO := Gv.loadR ha hs hx hO hv
end Go.Proofs.YtiojekbkamegdaaGreatDoor
namespace Go.Proofs.YtiojekbkamegdaaGreatDoor
open Go.Proofs.Tryz
open Go.Proofs
end Go.Proofs.YtiojekbkamegdaaGreatDoor
namespace Go.Proofs.YtiojekbkamegdaaGreatDoor
open Go.Proofs.Tryz
open Go.Proofs
end Go.Proofs.YtiojekbkamegdaaGreatDoor
namespace Go.Proofs.YtiojekbkamegdaaGreatDoor
open Go.Proofs.Tryz
def bag (X : OL) : AObj := .heapG (fun I L => ∃ L', RepOs I X L' ∧ L.Perm L') fun I J L h hp => by obtain ⟨L', h1, h2⟩ := hp; exact ⟨L', h1.mono h, h2⟩
section
variable {E : World} {env : AEnv} {O O1 O' : OL} {m i : Nat} {o : AObj} {X X' : OL}
theorem GStep.bagNew : GStep E env O env ((0, bag []) :: O) := fun I F ρ w h1 ⟨ht, L, hL, hS⟩ => ⟨I, .refl _, h1, ht, L, ⟨[], L, rfl, ⟨[], rfl, .refl _⟩, hL⟩, hS⟩
theorem GStep.bagOut (hX : X.Perm ((i, o) :: X')) (hO : Put O m (bag X) (bag X') O') : GStep E env O env ((i, o) :: O') := fun I F ρ w h1 ⟨ht, L, hL, hS⟩ => by
 obtain ⟨A, B, hp, ⟨L', hA, hpA⟩, hback⟩ := hO.rep hL
 obtain ⟨L2, h2, h3⟩ := hA.perm hX
 obtain ⟨C, D, rfl, h4, h5⟩ := h2
 obtain ⟨L3, h6, h7⟩ := hback (qe I) (A' := D) ⟨D, h5, .refl _⟩
 refine ⟨I, .refl _, h1, ht, C ++ L3, ⟨C, L3, rfl, h4, h6⟩, hS.perm (List.Perm.append_right F ?_)⟩
 refine (h7.append_left C).trans ?_
 rw [← qs]
 exact (((hpA.trans h3).append_right B).symm).trans hp.symm
theorem GStep.bagIn (hP : Pick O i o O1) (hX : ((i, o) :: X).Perm X') (hO : Put O1 m (bag X) (bag X') O') : GStep E env O env O' := fun I F ρ w h1 ⟨ht, L, hL, hS⟩ => by
 obtain ⟨A, B, hp, hA, hB⟩ := hP.rep hL
 obtain ⟨A2, B2, hp2, ⟨L', h3, h4⟩, hback⟩ := hO.rep hB
 obtain ⟨L4, h5, h6⟩ := (show RepOs I ((i, o) :: X) (A ++ L') from ⟨A, L', rfl, hA, h3⟩).perm hX
 obtain ⟨L5, h7, h8⟩ := hback (qe I) (A' := A ++ A2) ⟨L4, h5, (h4.append_left A).trans h6⟩
 refine ⟨I, .refl _, h1, ht, L5, h7, hS.perm (List.Perm.append_right F ?_)⟩
 refine h8.trans ?_
 rw [qs]
 exact ((hp2.append_left A).symm).trans hp.symm
end
theorem zip_out {α β γ : Type} (g : α → β → γ) : ∀ (xs : List α) (ys : List β) (j : Nat) {a : α} {b : β}, xs[j]? = some a → ys[j]? = some b → ∃ X, (List.zipWith g xs ys).Perm (g a b :: X) ∧ ∀ a' b', (g a' b' :: X).Perm (List.zipWith g (xs.set j a') (ys.set j b'))
 | [], _, j, _, _, h, _ => by simp at h
 | _ :: _, [], j, _, _, _, h => by simp at h
 | x :: xs, y :: ys, 0, a, b, h1, h2 => by
  simp at h1 h2
  subst h1 h2
  exact ⟨List.zipWith g xs ys, .refl _, fun _ _ => .refl _⟩
 | x :: xs, y :: ys, j + 1, a, b, h1, h2 => by
  obtain ⟨X, h3, h4⟩ := zip_out g xs ys j (by simpa using h1) (by simpa using h2)
  refine ⟨g x y :: X, (h3.cons _).trans (.swap _ _ _), fun a' b' => ?_⟩
  exact (List.Perm.swap _ _ _).trans ((h4 a' b').cons _)
theorem own_fro {I J : G} {id k : Nat} {T : TypeId} {rows : List (List AV)} {L : List (Nat × Obj)} (hk : ∀ r ∈ rows, r.length = k) (hk0 : 0 < k) (h : RepO I (id, .grow k T rows.flatten) L) (hle : I.le J) (hJ : ∀ x ∈ L, J.k x.1 = some x.2) {v : Value} (hv : RepV I (.own id rows.length) v) : RepV J (.fro k rows) v := by
 obtain ⟨b, c, n, vs, e1, hvs, hvc, hown⟩ := h
 simp only at e1
 have hflat := flat_len hk
 have hnm : n = rows.length := by
  have h5 := hown.1
  have h6 := hvs.length
  have : n * k = rows.length * k := by omega
  exact Nat.eq_of_mul_eq_mul_right hk0 this
 obtain ⟨b2, c2, e2, rfl⟩ := hv
 rw [e1] at e2
 simp only [Option.some.injEq, Prod.mk.injEq] at e2
 obtain ⟨rfl, rfl⟩ := e2
 obtain ⟨h5, h6, h7⟩ := hown
 rcases h7 with ⟨ea, rfl, rfl⟩ | ⟨b', junk, ea, rfl, hj⟩
 ·have h0 : rows = [] := List.eq_nil_of_length_eq_zero (by omega)
  subst h0
  exact ⟨adr b, 0, 0, rfl, rfl, Nat.le_refl _, fun _ => rfl, trivial⟩
 ·cases b with
  | none => simp [adr] at ea
  | some b =>
   simp [adr] at ea
   subst ea
   have hb := hJ _ (.head _)
   simp only at hb
   refine ⟨adr (some b), rows.length, c, rfl, rfl, by omega, fun h => by simp [adr] at h, RepR.of_flat hb rows vs 0 hk (qd hle _ _ hvs) fun i u hu => ?_⟩
   rw [Nat.zero_mul, Nat.zero_add, List.getElem?_toArray, List.getElem?_append_left (List.getElem?_eq_some_iff.1 hu).1]
   exact hu
section
variable {E : World} {env : AEnv} {O O1 O' : OL} {m i k : Nat} {T : TypeId} {cs cs' : List AV} {X : OL}
theorem GStep.bagKnow (hB : Pick O m (bag X) O1) (hP : Put O1 i (.grow k T cs) (.grow k T cs') O')
  (hc : ∀ (I J : G) L vs, I.le J → RepOs I X L → (∀ x ∈ L, J.k x.1 = some x.2) → RepL I cs vs → RepL J cs' vs) : GStep E env O env O' := fun I F ρ w h1 ⟨ht, L, hL, hS⟩ => by
 obtain ⟨A, B, hp, ⟨L', hX, hA⟩, hB2⟩ := hB.rep hL
 have hS2 : SL I.k (A ++ (B ++ F)) E w := hS.perm (by rw [← qs]; exact (hp.append_right F).symm)
 obtain ⟨J, j1, j2, j3⟩ := SL.freezeAllN hS2
 have hle : I.le ⟨J, I.h⟩ := ⟨j1, fun _ _ h => h⟩
 obtain ⟨A2, B2, hp2, ⟨b, c, n, vs, e1, hvs, hvc, hown⟩, hback⟩ := hP.rep hB2
 obtain ⟨L3, h4, h5⟩ := hback hle (A' := A2) ⟨b, c, n, vs, e1, hc I ⟨J, I.h⟩ L' vs hle hX (fun x hx => j3 x (hA.mem_iff.2 hx)) hvs, hvc, hown⟩
 exact ⟨⟨J, I.h⟩, hle, h1.mono hle, ht, L3, h4, j2.perm ((h5.trans hp2.symm).append_right F)⟩
end
theorem RepL.cut {I : G} {xs ys : List AV} {vs : List Value} (h : RepL I (xs ++ ys) vs) : ∃ a b, vs = a ++ b ∧ RepL I xs a ∧ RepL I ys b := by
 have e1 := h.take xs.length
 have e2 := h.drop xs.length
 rw [List.take_left] at e1
 rw [List.drop_left] at e2
 exact ⟨_, _, (List.take_append_drop _ _).symm, e1, e2⟩
end Go.Proofs.YtiojekbkamegdaaGreatDoor
