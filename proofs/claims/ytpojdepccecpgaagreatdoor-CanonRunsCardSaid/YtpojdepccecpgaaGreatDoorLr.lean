/- Shaped programs may be run. No conditions. -/
import Derived.Test.YtpojdepccecpgaaGreatDoorLq
import Derived.Test.YtpojdepccecpgaaGreatDoorLi
import Derived.Test.YtpojdepccecpgaaGreatDoorLj
import Derived.Test.YtpojdepccecpgaaGreatDoorLg
set_option linter.unusedVariables false
set_option linter.unusedSimpArgs false
set_option linter.unusedSectionVars false
namespace Go.Proofs.YtpojdepccecpgaaGreatDoor
open Go.Proofs.Tryz
open Go.Proofs Go.Lib Go.Shelf Go.RowKit
theorem pl93 : Places prog 93 #[(0, 3), (3, 1), (4, 1), (5, 1), (6, 1), (7, 1), (8, 1), (9, 13), (22, 1)] [.raw (.slice none 0 0), .raw (.slice none 0 0), .raw (.slice none 0 0), .raw (.slice none 0 0), .raw (.slice none 0 0), .raw (.slice none 0 0), .raw (.slice none 0 0), .int .i64 0, .int .i64 0, .int .i64 0, .int .i64 0, .int .i64 0, .raw (.slice none 0 0), .int .i64 0, .int .i64 0, .int .i64 0, .int .i64 0, .int .i64 0, .int .i64 0, .int .i64 0, .int .i64 0, .int .i64 0, .bool false] := ⟨_, _, j9, zeroValue93, fun w => by kernel_rfl, rfl⟩
variable {E : World}
set_option maxRecDepth 20000
def encArg (a : PArg) : List AV := [.int .i64 a.int, .bool a.b, .int .i64 a.arr]
def encArr (r : List Int) : List AV := [.fro 1 (r.map encI)]
def encIn (i : PIn) : List AV := [.fro 3 (i.args.map encArg), .fro 1 (i.arrays.map encArr)]
def encOut (s : GS) : List AV := [.int .i64 s.en, .int .i64 s.val, .int .i64 s.tr, .fro 1 (s.trace.map encI), .int .i64 s.st, .int .i64 (s.ck 0), .int .i64 (s.ck 1), .int .i64 (s.ck 2), .int .i64 (s.ck 3), .int .i64 (s.ck 4), .int .i64 (s.ck 5), .int .i64 (s.ck 6), .int .i64 (s.ck 7)]
def fillM (n k : Nat) : List Int := List.replicate k (-1) ++ List.replicate (n - k) 0
theorem fillM_0 (n : Nat) : fillM n 0 = List.replicate n 0 := by unfold fillM; simp
theorem fillM_n (n : Nat) : fillM n n = List.replicate n (-1) := by unfold fillM; simp
theorem fillM_len {n k : Nat} (h : k ≤ n) : (fillM n k).length = n := by unfold fillM; simp; omega
theorem fillM_set {n k : Nat} (h : k < n) : (fillM n k).set k (-1) = fillM n (k + 1) := by
 unfold fillM
 rw [List.set_append_right _ _ (by simp), List.length_replicate, Nat.sub_self, show n - k = (n - (k + 1)) + 1 by omega, List.replicate_succ, List.set_cons_zero, List.replicate_succ', qo]; rfl
section
variable {α β : Type} {g : Nat → α → β} {d : β} {n k : Nat} {l : List α}
theorem fill_0 : fillW g d n (l.take 0) = List.replicate n d := by unfold fillW; simp
theorem fill_len (h : l.length ≤ n) : (fillW g d n l).length = n := by unfold fillW; simp; omega
theorem fill_take (h : l.length ≤ n) (k : Nat) : (fillW g d n (l.take k)).length = n := fill_len (by rw [qx]; omega)
theorem fill_set (hk : k < l.length) (h : l.length ≤ n) : (fillW g d n (l.take k)).set k (g k l[k]) = fillW g d n (l.take (k + 1)) := by
 have hl : ((l.take k).zipIdx.map fun q => g q.2 q.1).length = k := by simp; omega
 unfold fillW
 rw [List.set_append_right _ _ (by rw [hl]; exact Nat.le_refl _), hl, Nat.sub_self, qx, qx, Nat.min_eq_left (by omega), Nat.min_eq_left (by omega), show n - k = (n - (k + 1)) + 1 by omega, List.replicate_succ, List.set_cons_zero, qn hk, List.zipIdx_append, qw, qo]
 have : (l.take k).length = k := by rw [qx]; omega
 simp [this]
theorem fill_skip (hk : k < l.length) (h : l.length ≤ n) (e : g k l[k] = d) : fillW g d n (l.take k) = fillW g d n (l.take (k + 1)) := by
 rw [← fill_set hk h, e]
 refine (List.ext_getElem? fun j=>?_)
 by_cases hj : k = j
 ·subst hj
  rw [List.getElem?_set_self (by rw [fill_take h]; omega)]
  have hl : ((l.take k).zipIdx.map fun q => g q.2 q.1).length = k := by simp; omega
  unfold fillW
  rw [List.getElem?_append_right (by rw [hl]; exact Nat.le_refl _), hl, Nat.sub_self, qx, Nat.min_eq_left (by omega), List.getElem?_replicate, if_pos (by omega)]
 ·rw [List.getElem?_set_ne hj]
end
theorem flat_I (r : List Int) : (r.map encI).flatten = cI r := cI_flat r
abbrev begS (ints : List Int) (bools : List Bool) (arrs : List Int) (arrays : List (List Int)) : GS := ⟨ints, bools, arrs, arrays, 0, 0, 3, 0, 0, [], 0, fun _ => 0, false⟩
theorem wO_push (f : PFunc) (iw ja jb jc jo jt : Nat) {ids : List Nat} {s : GS} (h : ids.length = s.arrays.length) (i : Nat) (r : List Int) (m : Nat) (hm : m = r.length) : (iw, AObj.cells 93 (encF f ++ [.own ja f.vars.length, .own jb f.vars.length, .own jc f.vars.length, .own jo (s.arrays.length + 1), .int .i64 s.blk, .int .i64 s.pc, .int .i64 s.en, .int .i64 s.val, .int .i64 s.tr, .own jt s.trace.length, .int .i64 s.st, .int .i64 (s.ck 0), .int .i64 (s.ck 1), .int .i64 (s.ck 2), .int .i64 (s.ck 3), .int .i64 (s.ck 4), .int .i64 (s.ck 5), .int .i64 (s.ck 6), .int .i64 (s.ck 7), .bool s.ended])) :: (ja, .grow 1 2 (cI s.ints)) :: (jb, .grow 1 4 (cB s.bools)) :: (jc, .grow 1 3 (cI s.arrs)) :: (jo, .grow 1 47 (ownsA ids s.arrays ++ [.own i m])) :: (jt, .grow 1 2 (cI s.trace)) :: [(0, bag (bagA (ids ++ [i]) (s.arrays ++ [r])))] = wO f iw ja jb jc jo jt (ids ++ [i]) { s with arrays := s.arrays ++ [r] } := by
 subst hm
 unfold wO wR wCe
 rw [← owns_push i r h]
 simp only [qs, List.length_singleton]
set_option maxHeartbeats 16000000 in
theorem wbegin_spec (f : PFunc) (i : PIn) (hv : f.vars.length ≤ 1000) (ha : i.args.length ≤ f.vars.length) (hn : i.arrays.length ≤ 40) (hr : ∀ r ∈ i.arrays, r.length ≤ 100) : ACall prog E 41 [.agg (encF f), .agg (encIn i)] [] (fun y O => ∃ iw ja jb jc jo jt ids, ids.length = i.arrays.length ∧ y = .po iw 0 ∧ O = wO f iw ja jb jc jo jt ids (begG f i)) := by
 refine zl func41 Z (by decide) Z<|zSr<|y8 (cs := _) Z Z Z<|y8 (cs := _) Z Z Z<|z8 (zAr Z)<|z6<|zSr<|zVzFF j8 Z Zl Z Z<|zVzLf Zz Z<|zVGvlenM jv Z<|zVzAi Z<|z6<|zb<|yn (γ := Nat × Nat × Nat × Nat) [2, 3] (fun g => [(6, .po g.1 0)]) (fun g => [(g.1, .cells 93 (encF f ++ [.own g.2.1 f.vars.length, .own g.2.2.1 f.vars.length, .own g.2.2.2 f.vars.length, .raw (.slice none 0 0), .int .i64 0, .int .i64 0, .int .i64 0, .int .i64 0, .int .i64 0, .raw (.slice none 0 0), .int .i64 0, .int .i64 0, .int .i64 0, .int .i64 0, .int .i64 0, .int .i64 0, .int .i64 0, .int .i64 0, .int .i64 0, .bool false])), (g.2.1, .grow 1 2 (cI (List.replicate f.vars.length 0))), (g.2.2.1, .grow 1 4 (cB (List.replicate f.vars.length false))), (g.2.2.2, .grow 1 3 (cI (List.replicate f.vars.length 0)))]) (fun g => True) ?_ (fun _ _ h => h) ?_
 ·refine zq (fun j => false) (by kernel_rfl) Z (zr (.rest _))<|zTk 0 Z (yo jp ji Z Z)<|zTk 1 Z (zMi Z)<|zTk 3 Z (zMi Z)<|zTk 5 Z (zMi Z)<|AAny.three (i := 2) (j := 4) (m := 6) Z Z Z (by kernel_rfl) ?_ ?_ ?_
  ·refine qf (m := f.vars.length) jj Yg Z Z Z Z Z (by simp) (by simp) (by show (8 : Int) * _ ≤ _; omega) (by omega)<|fun i17 => z6<|q7 (i := 4) (j := 6) Z Z (by kernel_rfl) ?_ ?_
   ·refine AOps.makeB (m := f.vars.length) jk Y9 Z Z Z Z Z (by simp) (by simp) (by show (1 : Int) * _ ≤ _; omega) (by omega)<|fun i19 => z6<|zOn 6 Z<|qf (m := f.vars.length) j4 Zi Z Z Z Z Z (by simp) (by simp) (by show (8 : Int) * _ ≤ _; omega) (by omega)<|fun i21 => z6<|zTk 7 Z (ye (cps := [(0, [_, _, _]), (1, [_]), (2, [_]), (3, [_])]) (rs := [_, _, _, _, _, _, .raw (.slice none 0 0), .int .i64 0, .int .i64 0, .int .i64 0, .int .i64 0, .int .i64 0, .raw (.slice none 0 0), .int .i64 0, .int .i64 0, .int .i64 0, .int .i64 0, .int .i64 0, .int .i64 0, .int .i64 0, .int .i64 0, .int .i64 0, .bool false]) pl93 Z Z Z)<|zOn 8 Z<|AOps.boxO (cs := _) Z Z Z Z<|fun i23 => zw (zm (zp .t1))<|zw (zm (zp .t2))<|zw (zm (zp .t3))<|zw (zm (zp .t3))<|z6<|zTk 9 Z (zAp Z)<|zDn ?_
    exact ⟨(i23, i17, i19, i21), zR2, zR1, zLe, trivial⟩
   ·refine qf (m := f.vars.length) j4 Zi Z Z Z Z Z (by simp) (by simp) (by show (8 : Int) * _ ≤ _; omega) (by omega)<|fun i21 => z6<|zOn 4 Z<|AOps.makeB (m := f.vars.length) jk Y9 Z Z Z Z Z (by simp) (by simp) (by show (1 : Int) * _ ≤ _; omega) (by omega)<|fun i19 => z6<|zTk 7 Z (ye (cps := [(0, [_, _, _]), (1, [_]), (2, [_]), (3, [_])]) (rs := [_, _, _, _, _, _, .raw (.slice none 0 0), .int .i64 0, .int .i64 0, .int .i64 0, .int .i64 0, .int .i64 0, .raw (.slice none 0 0), .int .i64 0, .int .i64 0, .int .i64 0, .int .i64 0, .int .i64 0, .int .i64 0, .int .i64 0, .int .i64 0, .int .i64 0, .bool false]) pl93 Z Z Z)<|zOn 8 Z<|AOps.boxO (cs := _) Z Z Z Z<|fun i23 => zw (zm (zp .t2))<|zw (zm (zp .t2))<|zw (zm (zp .t3))<|zw (zm (zp .t3))<|z6<|zTk 9 Z (zAp Z)<|zDn ?_
    exact ⟨(i23, i17, i19, i21), zR2, zR1, zLe, trivial⟩
  ·refine AOps.makeB (m := f.vars.length) jk Y9 Z Z Z Z Z (by simp) (by simp) (by show (1 : Int) * _ ≤ _; omega) (by omega)<|fun i19 => z6<|q7 (i := 2) (j := 6) Z Z (by kernel_rfl) ?_ ?_
   ·refine qf (m := f.vars.length) jj Yg Z Z Z Z Z (by simp) (by simp) (by show (8 : Int) * _ ≤ _; omega) (by omega)<|fun i17 => z6<|zOn 6 Z<|qf (m := f.vars.length) j4 Zi Z Z Z Z Z (by simp) (by simp) (by show (8 : Int) * _ ≤ _; omega) (by omega)<|fun i21 => z6<|zTk 7 Z (ye (cps := [(0, [_, _, _]), (1, [_]), (2, [_]), (3, [_])]) (rs := [_, _, _, _, _, _, .raw (.slice none 0 0), .int .i64 0, .int .i64 0, .int .i64 0, .int .i64 0, .int .i64 0, .raw (.slice none 0 0), .int .i64 0, .int .i64 0, .int .i64 0, .int .i64 0, .int .i64 0, .int .i64 0, .int .i64 0, .int .i64 0, .int .i64 0, .bool false]) pl93 Z Z Z)<|zOn 8 Z<|AOps.boxO (cs := _) Z Z Z Z<|fun i23 => zw (zm (zp .t1))<|zw (zm (zp .t3))<|zw (zm (zp .t3))<|zw (zm (zp .t3))<|z6<|zTk 9 Z (zAp Z)<|zDn ?_
    exact ⟨(i23, i17, i19, i21), zR2, zR1, zLe, trivial⟩
   ·refine qf (m := f.vars.length) j4 Zi Z Z Z Z Z (by simp) (by simp) (by show (8 : Int) * _ ≤ _; omega) (by omega)<|fun i21 => z6<|zOn 2 Z<|qf (m := f.vars.length) jj Yg Z Z Z Z Z (by simp) (by simp) (by show (8 : Int) * _ ≤ _; omega) (by omega)<|fun i17 => z6<|zTk 7 Z (ye (cps := [(0, [_, _, _]), (1, [_]), (2, [_]), (3, [_])]) (rs := [_, _, _, _, _, _, .raw (.slice none 0 0), .int .i64 0, .int .i64 0, .int .i64 0, .int .i64 0, .int .i64 0, .raw (.slice none 0 0), .int .i64 0, .int .i64 0, .int .i64 0, .int .i64 0, .int .i64 0, .int .i64 0, .int .i64 0, .int .i64 0, .int .i64 0, .bool false]) pl93 Z Z Z)<|zOn 8 Z<|AOps.boxO (cs := _) Z Z Z Z<|fun i23 => zw (zm (zp .t2))<|zw (zm (zp .t3))<|zw (zm (zp .t3))<|zw (zm (zp .t3))<|z6<|zTk 9 Z (zAp Z)<|zDn ?_
    exact ⟨(i23, i17, i19, i21), zR2, zR1, zLe, trivial⟩
  ·refine qf (m := f.vars.length) j4 Zi Z Z Z Z Z (by simp) (by simp) (by show (8 : Int) * _ ≤ _; omega) (by omega)<|fun i21 => z6<|q7 (i := 2) (j := 4) Z Z (by kernel_rfl) ?_ ?_
   ·refine qf (m := f.vars.length) jj Yg Z Z Z Z Z (by simp) (by simp) (by show (8 : Int) * _ ≤ _; omega) (by omega)<|fun i17 => z6<|zOn 4 Z<|AOps.makeB (m := f.vars.length) jk Y9 Z Z Z Z Z (by simp) (by simp) (by show (1 : Int) * _ ≤ _; omega) (by omega)<|fun i19 => z6<|zTk 7 Z (ye (cps := [(0, [_, _, _]), (1, [_]), (2, [_]), (3, [_])]) (rs := [_, _, _, _, _, _, .raw (.slice none 0 0), .int .i64 0, .int .i64 0, .int .i64 0, .int .i64 0, .int .i64 0, .raw (.slice none 0 0), .int .i64 0, .int .i64 0, .int .i64 0, .int .i64 0, .int .i64 0, .int .i64 0, .int .i64 0, .int .i64 0, .int .i64 0, .bool false]) pl93 Z Z Z)<|zOn 8 Z<|AOps.boxO (cs := _) Z Z Z Z<|fun i23 => zw (zm (zp .t3))<|zw (zm (zp .t2))<|zw (zm (zp .t3))<|zw (zm (zp .t3))<|z6<|zTk 9 Z (zAp Z)<|zDn ?_
    exact ⟨(i23, i17, i19, i21), zR2, zR1, zLe, trivial⟩
   ·refine AOps.makeB (m := f.vars.length) jk Y9 Z Z Z Z Z (by simp) (by simp) (by show (1 : Int) * _ ≤ _; omega) (by omega)<|fun i19 => z6<|zOn 2 Z<|qf (m := f.vars.length) jj Yg Z Z Z Z Z (by simp) (by simp) (by show (8 : Int) * _ ≤ _; omega) (by omega)<|fun i17 => z6<|zTk 7 Z (ye (cps := [(0, [_, _, _]), (1, [_]), (2, [_]), (3, [_])]) (rs := [_, _, _, _, _, _, .raw (.slice none 0 0), .int .i64 0, .int .i64 0, .int .i64 0, .int .i64 0, .int .i64 0, .raw (.slice none 0 0), .int .i64 0, .int .i64 0, .int .i64 0, .int .i64 0, .int .i64 0, .int .i64 0, .int .i64 0, .int .i64 0, .int .i64 0, .bool false]) pl93 Z Z Z)<|zOn 8 Z<|AOps.boxO (cs := _) Z Z Z Z<|fun i23 => z6<|zTk 9 Z (zAp Z)<|zDn ?_
    exact ⟨(i23, i17, i19, i21), zR2, zR1, zLe, trivial⟩
 ·rintro ⟨i23, i17, i19, i21⟩ _
  refine zSr<|zVzMp Z<|zVGvnilCheckO Z<|z8 (zc j9 Z Z9 (by decide) Z Z)<|z8 (zc jr Z sizeOf45 (by decide) Z Z)<|y1 (l := [_]) (new := [_, _, _, _, _, _, _, _, _, _, _, _, _, _, _, _, _, _, _, _, _, _, _]) sizeOf45 Z Z Z Z Z Z .head Z Z<|z6<|adoptC_wp (off := 6) (k := 1) (T := 47) (fun _ => .head) Z<|fun jo => adoptC_wp (off := 12) (k := 1) (T := 2) (fun _ => .t1) Z<|fun jt => y6 GStep.bagNew<|y6 (zm (zp .head))<|y6 (zm (zp .t1))<|y6 (zm (zp .t2))<|y6 (zm (zp .t6))<|y6 (zm (zp .t6))<|y6 (zm (zp .t6))<|y6 (zm (zp .t6))<|zb<|zSr<|zVzMp Z<|zVGvnilCheckO Z<|z8 (zc j9 Z je (by decide) Z Z)<|z8 (zi (c := .own _ _) jn Z ⟨_, .head⟩ Z)<|z8 (qj j4 Z)<|zVzMi Z<|z6<|zh<|y3 (γ := Nat) [2, 3, 6, 32] (fun k => [(33, .int .i64 k)]) (fun k => wO f i23 i17 i19 i21 jo jt [] (begS (List.replicate f.vars.length 0) (List.replicate f.vars.length false) (fillM f.vars.length k) [])) (fun k => k ≤ f.vars.length) (fun k => f.vars.length - k) 0 zR1 ⟨_, (.refl _), by rw [fillM_0]; rfl⟩ (qp _) ?_
  rintro k hk
  refine zSr<|zVGvlss Z Z<|z6<|zb<|zk Z (fun ck=>?_) (fun ck=>?_)
  ·have hk2 : k < f.vars.length := by simp at ck; omega
   refine ze<|zb<|zh<|zSr<|zVzMi Z<|zVzAi Z<|z6<|zRg<|zVzMp Z<|zVGvnilCheckO Z<|z8 (zc j9 Z je (by decide) Z Z)<|z8 (zi (c := .own _ _) jn Z ⟨_, .head⟩ Z)<|zVzMi Z<|z8 (yj (j := k) j4 j5 Z Z Z ⟨_, .t3⟩ ((cI_len _).trans (fillM_len hk)) hk2)<|q6 (j := k) j5 Z Z .t3 (by rw [fillM_len hk]; exact hk2)<|z6<|zRg<|zVzAd Z Z<|zVzMi Z<|z6 ?_
   exact ⟨k + 1, zR4, zR1, ⟨_, (.refl _), by rw [← fillM_set hk2]⟩, hk2, by omega⟩
  ·obtain rfl : k = f.vars.length := by simp at ck; omega
   rw [fillM_n]
   refine y2<|zb<|zSr<|zVzFF Y1 Z sizeOf37 Z Z<|zVzLf isAgg37 Z<|zVGvlenM Ym Z<|zVzMi Z<|z6<|zh<|y3 (γ := Nat) [2, 3, 6, 44, 45] (fun k => [(46, .int .i64 k)]) (fun k => wO f i23 i17 i19 i21 jo jt [] (begS (fillW (begI f) 0 f.vars.length (i.args.take k)) (fillW (begB f) false f.vars.length (i.args.take k)) (fillW (begA f) (-1) f.vars.length (i.args.take k)) [])) (fun k => k ≤ i.args.length) (fun k => i.args.length - k) 0 zR1 ⟨_, (.refl _), by rw [fill_0, fill_0, fill_0]⟩ (qp _) ?_
   rintro k hk
   refine zSr<|zVGvlss Z Z<|z6<|zb<|zk Z (fun ck=>?_) (fun ck=>?_)
   ·have hk2 : k < i.args.length := by simp at ck; omega
    obtain ⟨a, hea⟩ : ∃ a, i.args[k] = a := ⟨_, rfl⟩
    have hag : i.args[k]? = some a := by rw [qm hk2, hea]
    obtain ⟨v, hev⟩ : ∃ v, f.vars[k]? = some v := ⟨_, qm (by omega)⟩
    have hty : tyL f k = v.ty := by unfold tyL; rw [hev]; rfl
    have sI := fill_set (g := begI f) (d := 0) hk2 ha
    have sB := fill_set (g := begB f) (d := false) hk2 ha
    have sA := fill_set (g := begA f) (d := -1) hk2 ha
    have kI := fill_skip (g := begI f) (d := 0) hk2 ha
    have kB := fill_skip (g := begB f) (d := false) hk2 ha
    have kA := fill_skip (g := begA f) (d := -1) hk2 ha
    rw [hea] at sI sB sA kI kB kA
    refine ze<|zb<|zh<|zSr<|zVzMi Z<|z8 (zIM k Ym sizeOf88 Z Z Z hag)<|zVGvloadWF isAgg88 sizeOf88 Z Z<|zu (cs := [.int .i64 0, .bool false, .int .i64 0]) zeroValue88 Z Z<|fun i9 => zVzAi Z<|zt sizeOf88 Z Z Z Z Z Z .head Z<|zw (yi (t := 9) Z .head)<|z6<|zSr<|zVzFF j8 Z Zl Z Z<|zVzLf Zz Z<|zVzMi Z<|z8 (zIM k jv Ze Z Z Z hev)<|zVzFF Z1 Z Ys Z Z<|zVzLi isAgg56 Z<|z6<|zh<|zSr<|zVGveqlI Z Z<|zVzAb Z<|z6<|zk Z (fun c0=>?_) (fun c0=>?_)
    ·have c0 : tyL f k = 0 := hty.trans (by simpa using c0)
     rw [show begI f k a = a.int by unfold begI; rw [if_pos c0]] at sI
     have eB := kB (by unfold begB; rw [if_pos c0])
     have eA := kA (by unfold begA; rw [if_pos c0])
     refine zq (fun j => Nat.beq j 8) (by kernel_rfl) Z (zr (.r (.rest _)))<|zTk 0 Z (zMp Z)<|zTk 1 Z (zy Z)<|zTk 2 Z (zc j9 Z Za (by decide) Z Z)<|zTk 3 Z (zi (c := .own _ _) Zn Z ⟨_, .head⟩ Z)<|zTk 4 Z (zMi Z)<|zTk 5 Z (zFF Yv Z Z3 Z Z)<|zTk 6 Z (zLi Y7 Z)<|zOn 7 Z<|z8 (yj (j := k) jj Z3 Z Z Z ⟨_, .head⟩ ((cI_len _).trans (fill_take ha k)) (by omega))<|z6<|yc<|yd (i := 8) Z (by kernel_rfl) (by kernel_rfl)<|q6 (j := k) Z3 Z Z .t1 (by rw [fill_take ha]; omega)<|z6<|yg (by kernel_rfl)<|zRg<|zVzAd Z Z<|zVzMi Z<|z6 ?_
     exact ⟨k + 1, zR5, zR1, ⟨_, (.refl _), by rw [← sI, ← eB, ← eA]⟩, hk2, by omega⟩
    ·have c0 : ¬ tyL f k = 0 := fun h => c0 (by rw [hty] at h; simpa using h)
     have eI := kI (by unfold begI; rw [if_neg c0])
     refine zSr<|zVGveqlI Z Z<|zVzAb Z<|z6<|zk Z (fun c1=>?_) (fun c1=>?_)
     ·have c1 : tyL f k = 1 := hty.trans (by simpa using c1)
      rw [show begB f k a = a.b by unfold begB; rw [if_neg c0, if_pos c1]] at sB
      have eA := kA (by unfold begA; rw [if_neg c0, if_pos c1])
      refine zq (fun j => Nat.beq j 8) (by kernel_rfl) Z (zr (.r (.rest _)))<|zTk 0 Z (zMp Z)<|zTk 1 Z (zy Z)<|zTk 2 Z (zc j9 Z Yk (by decide) Z Z)<|zTk 3 Z (zi (c := .own _ _) Yu Z ⟨_, .head⟩ Z)<|zTk 4 Z (zMi Z)<|zTk 5 Z (zFF Yv Z Z6 Z Z)<|zTk 6 Z (yr (c := .bool _) Yn Z)<|zOn 7 Z<|z8 (yj (j := k) jk Z6 Z Z Z ⟨_, .t1⟩ ((cB_len _).trans (fill_take ha k)) (by omega))<|z6<|yc<|yd (i := 8) Z (by kernel_rfl) (by kernel_rfl)<|qd (j := k) Z6 Z Z .t2 (by rw [fill_take ha]; omega)<|z6<|yg (by kernel_rfl)<|zRg<|zVzAd Z Z<|zVzMi Z<|z6 ?_
      exact ⟨k + 1, zR5, zR1, ⟨_, (.refl _), by rw [← sB, ← eI, ← eA]⟩, hk2, by omega⟩
     ·have c1 : ¬ tyL f k = 1 := fun h => c1 (by rw [hty] at h; simpa using h)
      rw [show begA f k a = a.arr by unfold begA; rw [if_neg c0, if_neg c1]] at sA
      have eB := kB (by unfold begB; rw [if_neg c0, if_neg c1])
      refine zq (fun j => Nat.beq j 8) (by kernel_rfl) Z (zr (.r (.rest _)))<|zTk 0 Z (zMp Z)<|zTk 1 Z (zy Z)<|zTk 2 Z (zc j9 Z je (by decide) Z Z)<|zTk 3 Z (zi (c := .own _ _) jn Z ⟨_, .head⟩ Z)<|zTk 4 Z (zMi Z)<|zTk 5 Z (zFF Yv Z j5 Z Z)<|zTk 6 Z (zLi jd Z)<|zOn 7 Z<|z8 (yj (j := k) j4 j5 Z Z Z ⟨_, .t2⟩ ((cI_len _).trans (fill_take ha k)) (by omega))<|z6<|yc<|yd (i := 8) Z (by kernel_rfl) (by kernel_rfl)<|q6 (j := k) j5 Z Z .t3 (by rw [fill_take ha]; omega)<|z6<|yg (by kernel_rfl)<|zRg<|zVzAd Z Z<|zVzMi Z<|z6 ?_
      exact ⟨k + 1, zR5, zR1, ⟨_, (.refl _), by rw [← sA, ← eI, ← eB]⟩, hk2, by omega⟩
   ·obtain rfl : k = i.args.length := by simp at ck; omega
    rw [qr]
    refine y2<|zb<|zSr<|zVzFF Y1 Z Y0 Z Z<|zVzLf Yf Z<|zVGvlenM Z7 Z<|zVzMi Z<|z6<|zh<|y3 (γ := Nat × Nat × List Nat) [6, 87, 88] (fun g => [(89, .int .i64 g.1)]) (fun g => wO f i23 i17 i19 i21 g.2.1 jt g.2.2 (begS (fillW (begI f) 0 f.vars.length i.args) (fillW (begB f) false f.vars.length i.args) (fillW (begA f) (-1) f.vars.length i.args) (i.arrays.take g.1))) (fun g => g.1 ≤ i.arrays.length ∧ g.2.2.length = (i.arrays.take g.1).length) (fun g => i.arrays.length - g.1) (0, jo, []) zR1 zLe (⟨qp _, Z⟩) ?_
    rintro ⟨k, jo, ids⟩ ⟨hk, hids⟩
    try dsimp only at *
    refine zSr<|zVGvlss Z Z<|z6<|zb<|zk Z (fun ck=>?_) (fun ck=>?_)
    ·have hk2 : k < i.arrays.length := by simp at ck; omega
     obtain ⟨r, her⟩ : ∃ r, i.arrays[k] = r := ⟨_, rfl⟩
     have hrg : i.arrays[k]? = some r := by rw [qm hk2, her]
     have hrl := hr r (qv hrg)
     have hts : i.arrays.take (k + 1) = i.arrays.take k ++ [r] := by rw [qn hk2, her]
     have htl : (i.arrays.take k).length = k := by rw [qx]; omega
     refine ze<|zb<|zh<|zSr<|z8 (zIM k Z7 Za Z Z Z hrg)<|zVzLf Zn Z<|z8 (zAf Z)<|z6<|zq (fun j => Nat.beq j 12) (by kernel_rfl) Z (zr (.r (.rest _)))<|zTk 0 Z (zMp Z)<|zTk 1 Z (zMp Z)<|zTk 2 Z (zy Z)<|zTk 3 Z (zc j9 Z Y0 (by decide) Z Z)<|zTk 4 Z (zi (c := .own _ _) Yf Z ⟨_, .head⟩ Z)<|zTk 6 Z (zMf Z)<|zOn 5 Z<|yb (k := 1) jj Yg<|fun i98 => z6<|zOn 7 Z<|y5 (k := 1) jj Yg Z Z Z Z Z (fun _ => .head) Z (by decide) (by rw [flat_I]; exact cI_cell r) (by show (_ + _) * 8 ≤ _; simp; omega) (by simp; omega)<|fun i100 => z6<|zOn 8 Z<|zn (rows := [[_]]) ps38_1 Z Z Z Z Z<|z6<|zOn 9 Z<|y5 (k := 1) Z7 type47 Z Z Z Z Z (fun _ => .t4) (by show _ = (i.arrays.take k).length * 1; rw [owns_len hids]; omega) (by decide) Z (by show ((i.arrays.take k).length + 1) * 24 ≤ _; omega) (by show (i.arrays.take k).length + 1 ≤ _; omega)<|fun i102 => z6<|yk (i := 10) Z (by kernel_rfl) (by kernel_rfl) (by kernel_rfl) (by kernel_rfl) (zy Z)<|zTk 11 Z (zc j9 Z Y0 (by decide) Z Z)<|yc<|yd (i := 12) Z (by kernel_rfl) (by kernel_rfl)<|y1 (l := [_]) (new := [_, _, _, _, _, _, _, _, _, _, _, _, _, _, _, _, _, _, _, _, _, _, _]) Y0 Z Z Z Z Z Z .head Z Z<|z6<|yg (by kernel_rfl)<|y6 (GStep.bagIn (X' := bagA (ids ++ [i100]) (i.arrays.take k ++ [r])) .t1 ((by rw [List.nil_append, flat_I]; exact bag_push i100 r hids)) .t6)<|zRg<|zVzAd Z Z<|zVzMi Z ?_
     refine z6 ?_
     exact ⟨(k + 1, i102, ids ++ [i100]), zR3, zR1, ⟨_, (.refl _), by dsimp only; rw [hts]; exact wO_push f i23 i17 i19 i21 i102 jt (s := begS (fillW (begI f) 0 f.vars.length i.args) (fillW (begB f) false f.vars.length i.args) (fillW (begA f) (-1) f.vars.length i.args) (i.arrays.take k)) hids i100 r _ (by simp)⟩, ⟨hk2, by dsimp only; rw [hts]; simp [hids]⟩, by dsimp only; omega⟩
    ·obtain rfl : k = i.arrays.length := by simp at ck; omega
     rw [qr] at hids
     rw [qr]
     refine y2<|zSr<|zVzMp Z<|z8 (zAp Z)<|z6<|zf<|zj (x := .po _ _) Z ?_
     exact ⟨i23, i17, i19, i21, jo, jt, ids, hids, rfl, rfl⟩
end Go.Proofs.YtpojdepccecpgaaGreatDoor
namespace Go.Proofs.YtpojdepccecpgaaGreatDoor
open Go.Proofs.Tryz
theorem iteP {α : Type} {P : α → Prop} {c : Prop} [Decidable c] {a b : α} (h1 : c → P a) (h2 : ¬ c → P b) : P (if c then a else b) := by
 split
 ·exact h1 (by assumption)
 ·exact h2 (by assumption)
theorem doG_any {P : GS → Prop} (s : GS) (x : PInst) (h1 : ∀ e, P (stopG s e)) (h2 : ∀ v, P (stI s x.dst v)) (h3 : ∀ v, P (stB s x.dst v)) (h4 : ∀ v, P (stA s x.dst v)) (h5 : ∀ a b c, P (stA (stB (stI s x.dst a) x.dst b) x.dst c)) (h6 : ∀ A, P { s with arrays := A })
  (h7 : ∀ A v, P (stA { s with arrays := A } x.dst v)) (h8 : ∀ t, P { s with trace := t }) : P (doG s x) := by
 unfold doG
 refine iteP (P := P) (fun _ => h2 _) fun _ => iteP (P := P) (fun _ => h5 _ _ _) fun _ => iteP (P := P) (fun _ => h2 _) fun _ => iteP (P := P) (fun _ => h2 _) fun _ => iteP (P := P) (fun _ => h2 _) fun _ =>
  iteP (P := P) (fun _ => iteP (P := P) (fun _ => h1 _) fun _ => h2 _) fun _ => iteP (P := P) (fun _ => iteP (P := P) (fun _ => h1 _) fun _ => h2 _) fun _ => iteP (P := P) (fun _ => h3 _) fun _ => iteP (P := P) (fun _ => h3 _) fun _ => iteP (P := P) (fun _ => h3 _) fun _ =>
  iteP (P := P) (fun _ => h3 _) fun _ => iteP (P := P) (fun _ => h3 _) fun _ => iteP (P := P) (fun _ => iteP (P := P) (fun _ => h1 _) fun _ => h2 _) fun _ => iteP (P := P) (fun _ => iteP (P := P) (fun _ => h2 _) fun _ => h1 _) fun _ => iteP (P := P) (fun _ => iteP (P := P) (fun _ => h6 _) fun _ => h1 _) fun _ =>
  iteP (P := P) (fun _ => iteP (P := P) (fun _ => h1 _) fun _ => iteP (P := P) (fun _ => h1 _) fun _ => h7 _ _) fun _ => iteP (P := P) (fun _ => h4 _) fun _ => iteP (P := P) (fun _ => h1 _) fun _ => h8 _
theorem inst_st (s : GS) (x : PInst) : (instG s x).st = s.st := by
 unfold instG
 split
 ·split <;> rfl
 ·exact doG_any (P := fun t => t.st = s.st) s x (fun _ => rfl) (fun _ => rfl) (fun _ => rfl) (fun _ => rfl) (fun _ _ _ => rfl) (fun _ => rfl) (fun _ _ => rfl) (fun _ => rfl)
theorem inst_ck (s : GS) (x : PInst) (i : Nat) : (instG s x).ck i ≤ s.ck i + 1 := by
 unfold instG
 split
 ·split
  ·show (if i = _ then s.ck i + 1 else s.ck i) ≤ _
   split <;> omega
  ·show (if i = _ then s.ck i + 1 else s.ck i) ≤ _
   split <;> omega
 ·exact doG_any (P := fun t => t.ck i ≤ s.ck i + 1) s x (fun _ => Nat.le_succ _) (fun _ => Nat.le_succ _) (fun _ => Nat.le_succ _) (fun _ => Nat.le_succ _) (fun _ _ _ => Nat.le_succ _) (fun _ => Nat.le_succ _) (fun _ _ => Nat.le_succ _) (fun _ => Nat.le_succ _)
theorem assigns_keep (s : GS) : ∀ (l : List PPhi) (t : GS), (l.foldl (assign s) t).st = t.st ∧ (l.foldl (assign s) t).ck = t.ck ∧ (l.foldl (assign s) t).ended = t.ended
 | [], _ => ⟨rfl, rfl, rfl⟩
 | p :: l, t => assigns_keep s l (assign s t p)
theorem enter_keep (f : PFunc) (s : GS) (to : Int) : (enterG f s to).st = s.st ∧ (enterG f s to).ck = s.ck := by
 unfold enterG
 split
 ·obtain ⟨h1, h2, _⟩ := assigns_keep s (blkG f to).phis s
  exact ⟨h1, h2⟩
 ·exact ⟨rfl, rfl⟩
theorem step_st (f : PFunc) (s : GS) : (stepG f s).st = s.st + 1 := by
 unfold stepG
 split
 ·rw [inst_st]
 ·split
  ·rfl
  ·rw [(enter_keep f _ _).1]
theorem step_ck (f : PFunc) (s : GS) (i : Nat) : (stepG f s).ck i ≤ s.ck i + 1 := by
 unfold stepG
 split
 ·exact inst_ck _ _ i
 ·split
  ·exact Nat.le_succ _
  ·rw [(enter_keep f _ _).2]; exact Nat.le_succ _
theorem run_ended {f : PFunc} {s : GS} (h : s.ended = true) : ∀ k, runG f k s = s
 | 0 => rfl
 | k + 1 => by unfold runG; rw [if_pos h]
def badArg (f : PFunc) (i : PIn) (q : PArg × Nat) : Bool := decide (tyL f q.2 = 2 ∧ (q.1.arr < -1 ∨ (i.arrays.length : Int) ≤ q.1.arr))
def rightG (f : PFunc) (i : PIn) : Int := if ¬ i.args.length = f.params.length then 1 else if i.args.zipIdx.any (badArg f i) = true then 1 else if 32 < i.arrays.length then 4 else if i.arrays.any (fun r => decide (64 < r.length)) = true then 4 else 0
def alikeG (a b : GS) : Bool := decide (a.en = b.en ∧ a.val = b.val ∧ a.tr = b.tr ∧ a.trace = b.trace)
def in64 (i : PIn) : Prop := (∀ a ∈ i.args, is64 a.int) ∧ ∀ r ∈ i.arrays, ∀ x ∈ r, is64 x
theorem mem_fill {α β : Type} {g : Nat → α → β} {d : β} {n : Nat} {l : List α} {x : β} (h : x ∈ fillW g d n l) : (∃ j a, l[j]? = some a ∧ x = g j a) ∨ x = d := by
 unfold fillW at h
 rcases List.mem_append.1 h with h | h
 ·obtain ⟨⟨a, j⟩, hm, rfl⟩ := List.mem_map.1 h
  exact .inl ⟨j, a, List.mk_mem_zipIdx_iff_getElem?.1 hm, rfl⟩
 ·exact .inr (List.mem_replicate.1 h).2
theorem GInv.beg {f : PFunc} {i : PIn} (hR : RunP f) (hp : f.params.length ≤ f.vars.length) (ht : ∀ j, 0 ≤ tyL f j ∧ tyL f j ≤ 2) (h : rightG f i = 0) (h64 : in64 i) : GInv f (begG f i) ∧ i.args.length ≤ f.vars.length := by
 unfold rightG at h
 split at h
 ·cases h
 rename_i h1
 split at h
 ·cases h
 rename_i h2
 split at h
 ·cases h
 rename_i h3
 split at h
 ·cases h
 rename_i h4
 have h1 : i.args.length = f.params.length := Classical.not_not.1 h1
 have hr : ∀ r ∈ i.arrays, r.length ≤ 64 := fun r hr => by
  refine Classical.byContradiction fun hn => h4 (List.any_eq_true.2 ⟨r, hr, qy (by omega)⟩)
 have hl : i.args.length ≤ f.vars.length := by omega
 have hf : ∀ {β : Type} (g : Nat → PArg → β) (d : β), (fillW g d f.vars.length i.args).length = f.vars.length := fun g d => by unfold fillW; simp; omega
 refine ⟨⟨hf _ _, hf _ _, hf _ _, fun x hx => ?_, fun x hx => ?_, by show i.arrays.length ≤ 40; omega, fun r h => Nat.le_trans (hr r h) (by omega), h64.2, qp _, Int.le_refl _, by show (0 : Int) < f.blocks.length; have := hR.pos; omega, qp _⟩, hl⟩
 ·rcases mem_fill hx with ⟨j, a, ha, rfl⟩ | rfl
  ·unfold begI; split
   ·exact h64.1 a (qv ha)
   ·exact ⟨by decide, by decide⟩
  ·exact ⟨by decide, by decide⟩
 ·show _ ∧ _ < (i.arrays.length : Int)
  rcases mem_fill hx with ⟨j, a, ha, rfl⟩ | rfl
  ·unfold begA
   split
   ·exact ⟨by omega, by omega⟩
   split
   ·exact ⟨by omega, by omega⟩
   have := ht j
   have hb : ¬ badArg f i (a, j) = true := fun hb => h2 (List.any_eq_true.2 ⟨(a, j), qv (i := j) (by rw [List.getElem?_zipIdx, ha]; simp), hb⟩)
   unfold badArg at hb
   simp only [w4] at hb
   have h2' : tyL f j = 2 := by omega
   omega
  ·exact ⟨by omega, by omega⟩
end Go.Proofs.YtpojdepccecpgaaGreatDoor
namespace Go.Proofs.YtpojdepccecpgaaGreatDoor
open Go.Proofs.Tryz
open Go.Proofs Go.Lib Go.Shelf Go.RowKit
variable {E : World}
set_option maxRecDepth 20000
set_option maxHeartbeats 4000000 in
theorem wrun_spec (f : PFunc) (i : PIn) (n : Nat) (hR : RunP f) (hv : f.vars.length ≤ 1000) (hs : small f) (hi : GInv f (begG f i)) (ha : i.args.length ≤ f.vars.length) (hn : n ≤ 1000000000) : AFun prog E 19 [.agg (encF f), .agg (encIn i), .int .i64 n] (.agg (encOut (runG f n (begG f i)))) := by
 have hls := hi.ls
 have hlr := hi.lr
 refine zl func19 Z (by decide) Z<|zSr<|y8 (cs := _) Z Z Z<|y8 (cs := _) Z Z Z<|zu (cs := [.int .i64 0, .int .i64 0, .int .i64 0, .raw (.slice none 0 0), .int .i64 0, .int .i64 0, .int .i64 0, .int .i64 0, .int .i64 0, .int .i64 0, .int .i64 0, .int .i64 0, .int .i64 0]) zeroValue50 Z Z<|fun i6 => z6<|zSr<|zVGvloadWF jp ji Z Z<|zVGvloadWF isAgg40 sizeOf40 Z Z<|yh Z (zr (.r (.rest _))) (wbegin_spec f i hv ha hls hlr) ?_
 rintro r11 O11 ⟨iw, ja, jb, jc, jo, jt, ids, hids, rfl, rfl⟩
 refine z8 (zAp Z)<|z6<|zb<|zSr<|zVzAi Z<|z6<|zh<|y3 (γ := Nat × GS × Nat × Nat × List Nat) [2, 6, 7] (fun g => [(8, .int .i64 g.1)]) (fun g => wO f iw ja jb jc g.2.2.1 g.2.2.2.1 g.2.2.2.2 g.2.1 ++ [(i6, .cells 50 [.int .i64 0, .int .i64 0, .int .i64 0, .raw (.slice none 0 0), .int .i64 0, .int .i64 0, .int .i64 0, .int .i64 0, .int .i64 0, .int .i64 0, .int .i64 0, .int .i64 0, .int .i64 0])]) (fun g => g.1 ≤ n ∧ runG f (n - g.1) g.2.1 = runG f n (begG f i) ∧ GInv f g.2.1 ∧ g.2.1.st ≤ g.1 ∧ (∀ q, g.2.1.ck q ≤ g.1) ∧ g.2.2.2.2.length = g.2.1.arrays.length) (fun g => n - g.1) (0, begG f i, jo, jt, ids) zR1 zLe (⟨qp _, Z, hi, qp _, fun _ => qp _, hids⟩) ?_
 rintro ⟨k, s, jo, jt, ids⟩ ⟨hk, hrun, hg, hst, hck, hids⟩
 try dsimp only at *
 refine zb<|zSr<|zVzMi Z<|zVzMi Z<|zVGvlss Z Z<|zVzMb Z<|zo (s := 15) Z (fun ck=>?_) (fun ck=>?_)
 ·have hk2 : k < n := by simp at ck; omega
  refine za Z Z ck<|zVzMp Z<|za Z Z ck<|zVGvnilCheckO Z<|za Z Z ck<|z8 (zc j9 Z Z6 (by decide) Z Z)<|za Z Z ck<|z8 (zi (c := .bool _) Yn Z ⟨_, .head⟩ Z)<|za Z Z ck<|zVGvnot Z<|zVzPt Z ck Z<|z6<|zz Z (fun ce=>?_) (fun ce=>?_)
  ·have he : s.ended = false := by simpa using ce
   rw [show n - k = (n - (k + 1)) + 1 by omega, runG, if_neg (by rw [he]; decide)] at hrun
   refine ze<|zb<|zh<|zRg<|zVzMp Z<|yh Z (zr (.l (.l (.l (.l (.l (.l (.l (.r (.rest _)))))))))) (wstep_spec f iw ja jb jc jo jt ids s hids hg hR hv hs (by omega) (fun q => by have := hck q; omega)) ?_
   rintro r25 O25 ⟨jo', jt', ids', hl', rfl, rfl⟩
   refine z6<|zRg<|zVzMi Z<|zVzAd Z Z<|zVzAi Z<|z6 ?_
   exact ⟨(k + 1, stepG f s, jo', jt', ids'), zR3, zR1, zLe, ⟨hk2, hrun, hg.step hR, by rw [step_st]; dsimp only; omega, fun q => Nat.le_trans (step_ck f s q) (by have := hck q; dsimp only; omega), hl'⟩, by dsimp only; omega⟩
  ·have he : s.ended = true := by simpa using ce
   have hend : runG f n (begG f i) = s := by rw [← hrun]; exact run_ended he _
   rw [hend]
   refine y2<|zb<|y6 (GStep.knowIC (off := 12) .t5 .head Z Z)<|zRg<|zVzMp Z<|zVGvnilCheckO Z<|z8 (zc j9 Z Z9 (by decide) Z Z)<|z8 (Gv.loadAC (l := [_, _, _, _, _, _, _, _, _, _, _, _, _]) isAgg50 Z9 Z ⟨_, .head⟩ Z Z)<|zt Z9 Z Z Z Z Z Z .t6 Z<|z6<|zf<|afin.c1 Z ⟨_, .t6⟩ isAgg50 Z9 Z ?_
   rfl
 ·have hk2 : k = n := by simp at ck; omega
  have hend : runG f n (begG f i) = s := by rw [← hrun, hk2, Nat.sub_self]; rfl
  rw [hend]
  refine z7 Z Z ck<|z7 Z Z ck<|z7 Z Z ck<|z7 Z Z ck<|z7 Z Z ck<|zVzPf Z ck Z<|z6<|ym Z Z<|y2<|zb<|y6 (GStep.knowIC (off := 12) .t5 .head Z Z)<|zRg<|zVzMp Z<|zVGvnilCheckO Z<|z8 (zc j9 Z Z9 (by decide) Z Z)<|z8 (Gv.loadAC (l := [_, _, _, _, _, _, _, _, _, _, _, _, _]) isAgg50 Z9 Z ⟨_, .head⟩ Z Z)<|zt Z9 Z Z Z Z Z Z .t6 Z<|z6<|zf<|afin.c1 Z ⟨_, .t6⟩ isAgg50 Z9 Z ?_
  rfl
theorem rightG_spec (f : PFunc) (i : PIn) (hp : f.params.length ≤ f.vars.length) (hl : i.args.length ≤ 281474976710656) (hl2 : i.arrays.length ≤ 281474976710656) : AFun prog E 16 [.agg (encF f), .agg (encIn i)] (.int .i64 (rightG f i)) := by
 refine zl func16 Z (by decide) Z<|zSr<|y8 (cs := _) Z Z Z<|y8 (cs := _) Z Z Z<|zVzAi Z<|z6<|zb<|zSr<|zVzFF Y1 Z sizeOf37 Z Z<|zVzLf isAgg37 Z<|zVGvlenM Ym Z<|zVzFF j8 Z je Z Z<|zVzLf jn Z<|zVGvlenM j4 Z<|z8 (yl Z Z)<|z6<|zz Z (fun c1=>?_) (fun c1=>?_)
 ·have c1 : ¬ i.args.length = f.params.length := by simp at c1; omega
  refine zSr<|zVzAi Z<|z6<|zf<|zj (x := .int _ _) Z ?_
  unfold rightG; rw [if_pos c1]
 ·have c1 : i.args.length = f.params.length := by simp at c1; omega
  refine ze<|zb<|zSr<|zVzFF Y1 Z sizeOf37 Z Z<|zVzLf isAgg37 Z<|zVGvlenM Ym Z<|zVzMi Z<|z6<|zh<|y3 (γ := Nat) [2, 3, 17, 18] (fun k => [(19, .int .i64 k)]) (fun k => []) (fun k => k ≤ i.args.length ∧ ∀ (j : Nat) a, j < k → i.args[j]? = some a → badArg f i (a, j) = false) (fun k => i.args.length - k) 0 zR1 zLe (⟨qp _, fun j a h => absurd h (Nat.not_lt_zero _)⟩) ?_
  rintro k ⟨hk, hok⟩
  refine zSr<|zVGvlss Z Z<|z6<|zb<|zk Z (fun ck=>?_) (fun ck=>?_)
  ·have hk2 : k < i.args.length := by simp at ck; omega
   obtain ⟨a, hea⟩ : ∃ a, i.args[k] = a := ⟨_, rfl⟩
   have hag : i.args[k]? = some a := by rw [qm hk2, hea]
   obtain ⟨v, hev⟩ : ∃ v, f.vars[k]? = some v := ⟨_, qm (by omega)⟩
   have hty : tyL f k = v.ty := by unfold tyL; rw [hev]; rfl
   refine ze<|zb<|zh<|zSr<|zVzMi Z<|z8 (zIM k Ym sizeOf88 Z Z Z hag)<|zVGvloadWF isAgg88 sizeOf88 Z Z<|zu (cs := [.int .i64 0, .bool false, .int .i64 0]) zeroValue88 Z Z<|fun i6 => zVzAi Z<|zt sizeOf88 Z Z Z Z Z Z .head Z<|zw (yi (t := 6) Z .head)<|z6<|zb<|yn (γ := Bool) [2, 3, 17, 18, 19] (fun z => [(43, .bool z)]) (fun z => []) (fun z => z = badArg f i (a, k)) ?_ (fun _ _ h => h) ?_
   ·refine zRg<|zVzFF j8 Z Zl Z Z<|zVzLf Zz Z<|zVzMi Z<|z8 (zIM k jv Ze Z Z Z hev)<|zVzFF Z1 Z Ys Z Z<|zVzLi isAgg56 Z<|zVGveqlI Z Z<|zVzMb Z<|zo (s := 31) Z (fun c2=>?_) (fun c2=>?_)
    ·have d2 : tyL f k = 2 := hty.trans (by simpa using c2)
     refine za Z Z c2<|zVzFF Yv Z j5 Z Z<|za Z Z c2<|zVzLi jd Z<|za Z Z c2<|zVGvlss Z Z<|za Z Z c2<|zVzMb Z<|zo (s := 35) Z (fun c3=>?_) (fun c3=>?_)
     ·have d3 : a.arr < -1 := by simpa using c3
      refine z7 Z Z c3<|z7 Z Z c3<|z7 Z Z c3<|z7 Z Z c3<|z7 Z Z c3<|z7 Z Z c3<|za Z Z c2<|zVzPt Z c3 Z<|zVzPt Z c2 Z<|z6 ?_
      exact ⟨_, zR5, zR1, zLe, by unfold badArg; simp [d2, d3]⟩
     ·have d3 : ¬ a.arr < -1 := by simpa using c3
      refine za Z Z c3<|zVzFF Yv Z j5 Z Z<|za Z Z c3<|zVzLi jd Z<|za Z Z c3<|zVzFF Y1 Z Y0 Z Z<|za Z Z c3<|zVzLf Yf Z<|za Z Z c3<|zVGvlenM Z7 Z<|za Z Z c3<|z8 (qc Z Z)<|za Z Z c2<|zVzPf Z c3 Z<|zVzPt Z c2 Z<|z6 ?_
      exact ⟨_, zR5, zR1, zLe, by unfold badArg; simp [d2, d3]⟩
    ·have d2 : ¬ tyL f k = 2 := fun h => by rw [hty] at h; simp [h] at c2
     refine z7 Z Z c2<|z7 Z Z c2<|z7 Z Z c2<|z7 Z Z c2<|zd Z Z<|zd Z Z<|zd Z Z<|zd Z Z<|zd Z Z<|zd Z Z<|z7 Z Z c2<|zVzPf Z c2 Z<|z6 ?_
     exact ⟨_, zR5, zR1, zLe, by unfold badArg; simp [d2]⟩
   ·rintro z hz
    refine zz Z (fun cz=>?_) (fun cz=>?_)
    ·have hb : i.args.zipIdx.any (badArg f i) = true := List.any_eq_true.2 ⟨(a, k), qv (i := k) (by rw [List.getElem?_zipIdx, hag]; simp), hz.symm.trans cz⟩
     refine zSr<|zVzAi Z<|z6<|zf<|zj (x := .int _ _) Z ?_
     unfold rightG; rw [if_neg (fun h => h c1), if_pos hb]
    ·refine ze<|zRg<|zVzAd Z Z<|zVzMi Z<|z6 ?_
     exact ⟨k + 1, zR4, zR1, zLe, ⟨hk2, fun j b hj hb => by rcases (by omega : j < k ∨ j = k) with h | rfl; exact hok j b h hb; rw [hag] at hb; cases hb; exact hz.symm.trans cz⟩, by omega⟩
  ·obtain rfl : k = i.args.length := by simp at ck; omega
   have hb : ¬ i.args.zipIdx.any (badArg f i) = true := fun h => by
    obtain ⟨⟨a, j⟩, hm, hh⟩ := List.any_eq_true.1 h
    obtain ⟨hj, e⟩ := List.mk_mem_zipIdx_iff_getElem?.1 hm |> fun h => (⟨(List.getElem?_eq_some_iff.1 h).1, h⟩ : j < i.args.length ∧ _)
    rw [hok j a hj e] at hh; cases hh
   refine y2<|zb<|zSr<|zVzFF Y1 Z Y0 Z Z<|zVzLf Yf Z<|zVGvlenM Z7 Z<|z8 (yy Z Z)<|z6<|zk Z (fun c32=>?_) (fun c32=>?_)
   ·have c32 : 32 < i.arrays.length := by omega
    refine zSr<|zVzAi Z<|z6<|zf<|zj (x := .int _ _) Z ?_
    unfold rightG; rw [if_neg (fun h => h c1), if_neg hb, if_pos c32]
   ·have c32 : ¬ 32 < i.arrays.length := by omega
    refine ze<|zb<|zSr<|zVzFF Y1 Z Y0 Z Z<|zVzLf Yf Z<|zVGvlenM Z7 Z<|zVzMi Z<|z6<|zh<|y3 (γ := Nat) [50, 51] (fun k => [(52, .int .i64 k)]) (fun k => []) (fun k => k ≤ i.arrays.length ∧ ∀ r ∈ i.arrays.take k, decide (64 < r.length) = false) (fun k => i.arrays.length - k) 0 zR1 zLe (⟨qp _, fun r h => by simp at h⟩) ?_
    rintro k ⟨hk, hok⟩
    refine zSr<|zVGvlss Z Z<|z6<|zb<|zk Z (fun ck=>?_) (fun ck=>?_)
    ·have hk2 : k < i.arrays.length := by simp at ck; omega
     obtain ⟨r, her⟩ : ∃ r, i.arrays[k] = r := ⟨_, rfl⟩
     have hrg : i.arrays[k]? = some r := by rw [qm hk2, her]
     refine ze<|zb<|zh<|zSr<|z8 (zIM k Z7 Za Z Z Z hrg)<|zVzLf Zn Z<|z8 (zAf Z)<|z6<|zSr<|zVzMf Z<|zVGvlenM jj Z<|z8 (yy Z Z)<|z6<|zk Z (fun cr=>?_) (fun cr=>?_)
     ·have cr : 64 < r.length := by omega
      have hb4 : i.arrays.any (fun r => decide (64 < r.length)) = true := List.any_eq_true.2 ⟨r, qv hrg, qy cr⟩
      refine zSr<|zVzAi Z<|z6<|zf<|zj (x := .int _ _) Z ?_
      unfold rightG; rw [if_neg (fun h => h c1), if_neg hb, if_neg c32, if_pos hb4]
     ·have cr : ¬ 64 < r.length := by omega
      refine ze<|zRg<|zVzAd Z Z<|zVzMi Z<|z6 ?_
      exact ⟨k + 1, zR2, zR1, zLe, ⟨hk2, fun q hq => by rw [qn hk2] at hq; rcases List.mem_append.1 hq with hq | hq; exact hok q hq; rw [List.mem_singleton.1 hq, her]; exact qz cr⟩, by omega⟩
    ·obtain rfl : k = i.arrays.length := by simp at ck; omega
     rw [qr] at hok
     have hb4 : ¬ i.arrays.any (fun r => decide (64 < r.length)) = true := fun h => by
      obtain ⟨r, hm, hh⟩ := List.any_eq_true.1 h
      rw [hok r hm] at hh; cases hh
     refine y2<|zSr<|zVzAi Z<|z6<|zf<|zj (x := .int _ _) Z ?_
     unfold rightG; rw [if_neg (fun h => h c1), if_neg hb, if_neg c32, if_neg hb4]
theorem alike_spec (a b : GS) (hl : a.trace.length ≤ 281474976710656) : AFun prog E 40 [.agg (encOut a), .agg (encOut b)] (.bool (alikeG a b)) := by
 refine zl func40 Z (by decide) Z<|zSr<|y8 (cs := _) Z Z Z<|y8 (cs := _) Z Z Z<|zVzAb Z<|z6<|zb<|zb<|yn (γ := Bool) [2, 3] (fun z => [(33, .bool z)]) (fun z => []) (fun z => z = !decide (a.en = b.en ∧ a.val = b.val ∧ a.tr = b.tr ∧ a.trace.length = b.trace.length)) ?_ (fun _ _ h => h) ?_
 ·refine zRg<|zVzFF jr Z sizeOf45 Z Z<|zVzLi isAgg45 Z<|zVzFF jr Z sizeOf45 Z Z<|zVzLi isAgg45 Z<|z8 (yl Z Z)<|zVzMb Z<|zo (s := 11) Z (fun c1=>?_) (fun c1=>?_)
  ·have d1 : ¬ a.en = b.en := by simpa using c1
   refine z7 Z Z c1<|z7 Z Z c1<|z7 Z Z c1<|z7 Z Z c1<|z7 Z Z c1<|zVzPt Z c1 Z<|zVzMb Z<|z7 Z Z Z<|z7 Z Z Z<|z7 Z Z Z<|z7 Z Z Z<|z7 Z Z Z<|zVzPt Z Z Z<|zVzMb Z<|z7 Z Z Z<|z7 Z Z Z<|z7 Z Z Z<|z7 Z Z Z<|z7 Z Z Z<|z7 Z Z Z<|z7 Z Z Z<|zVzPt Z Z Z<|z6 ?_
   exact ⟨_, zR2, zR1, zLe, by simp [d1]⟩
  ·have d1 : a.en = b.en := by simpa using c1
   refine za Z Z c1<|zVzFF jr Z Z3 Z Z<|za Z Z c1<|zVzLi Y7 Z<|za Z Z c1<|zVzFF jr Z Z3 Z Z<|za Z Z c1<|zVzLi Y7 Z<|za Z Z c1<|z8 (yl Z Z)<|zVzPf Z c1 Z<|zVzMb Z<|zo (s := 18) Z (fun c2=>?_) (fun c2=>?_)
   ·have d2 : ¬ a.val = b.val := by simpa using c2
    refine z7 Z Z c2<|z7 Z Z c2<|z7 Z Z c2<|z7 Z Z c2<|z7 Z Z c2<|zVzPt Z c2 Z<|zVzMb Z<|z7 Z Z Z<|z7 Z Z Z<|z7 Z Z Z<|z7 Z Z Z<|z7 Z Z Z<|z7 Z Z Z<|z7 Z Z Z<|zVzPt Z Z Z<|z6 ?_
    exact ⟨_, zR2, zR1, zLe, by simp [d2]⟩
   ·have d2 : a.val = b.val := by simpa using c2
    refine za Z Z c2<|zVzFF jr Z sizeOf46 Z Z<|za Z Z c2<|zVzLi isAgg46 Z<|za Z Z c2<|zVzFF jr Z sizeOf46 Z Z<|za Z Z c2<|zVzLi isAgg46 Z<|za Z Z c2<|z8 (yl Z Z)<|zVzPf Z c2 Z<|zVzMb Z<|zo (s := 25) Z (fun c3=>?_) (fun c3=>?_)
    ·have d3 : ¬ a.tr = b.tr := by simpa using c3
     refine z7 Z Z c3<|z7 Z Z c3<|z7 Z Z c3<|z7 Z Z c3<|z7 Z Z c3<|z7 Z Z c3<|z7 Z Z c3<|zVzPt Z c3 Z<|z6 ?_
     exact ⟨_, zR2, zR1, zLe, by simp [d3]⟩
    ·have d3 : a.tr = b.tr := by simpa using c3
     refine za Z Z c3<|zVzFF jr Z Za Z Z<|za Z Z c3<|zVzLf Zn Z<|za Z Z c3<|zVGvlenM jj Z<|za Z Z c3<|zVzFF jr Z Za Z Z<|za Z Z c3<|zVzLf Zn Z<|za Z Z c3<|zVGvlenM jj Z<|za Z Z c3<|z8 (yl Z Z)<|zVzPf Z c3 Z<|z6 ?_
     exact ⟨_, zR2, zR1, zLe, by simp [d1, d2, d3]; omega⟩
 ·rintro z hz
  refine zz Z (fun cz=>?_) (fun cz=>?_)
  ·have cz : ¬ (a.en = b.en ∧ a.val = b.val ∧ a.tr = b.tr ∧ a.trace.length = b.trace.length) := by intro h; rw [hz, qy h] at cz; cases cz
   refine zSr<|zVzAb Z<|z6<|zf<|zj (x := .bool _) Z ?_
   unfold alikeG; rw [qz]; rintro ⟨h1, h2, h3, h4⟩; exact cz ⟨h1, h2, h3, by rw [h4]⟩
  ·have cz : a.en = b.en ∧ a.val = b.val ∧ a.tr = b.tr ∧ a.trace.length = b.trace.length := Classical.byContradiction fun h => by rw [hz, qz h] at cz; cases cz
   refine ze<|zb<|zSr<|zVzFF jr Z Za Z Z<|zVzLf Zn Z<|zVGvlenM jj Z<|zVzMi Z<|z6<|zh<|y3 (γ := Nat) [2, 3, 36] (fun k => [(37, .int .i64 k)]) (fun k => []) (fun k => k ≤ a.trace.length ∧ a.trace.take k = b.trace.take k) (fun k => a.trace.length - k) 0 zR1 zLe (⟨qp _, by simp⟩) ?_
   rintro k ⟨hk, hok⟩
   refine zSr<|zVGvlss Z Z<|z6<|zb<|zk Z (fun ck=>?_) (fun ck=>?_)
   ·have hk2 : k < a.trace.length := by simp at ck; omega
    have hk3 : k < b.trace.length := by omega
    refine ze<|zb<|zh<|zSr<|zVzMi Z<|zVzAi Z<|z6<|zb<|zq (fun j => false) (by kernel_rfl) Z (zr (.rest _))<|zTk 0 Z (zFF jr Z Za Z Z)<|zTk 1 Z (zLf Zn Z)<|zTk 2 Z (zMi Z)<|zTk 3 Z (zIM k jj Z3 Z Z Z (qm hk2))<|zTk 4 Z (zLi Y7 Z)<|zTk 5 Z (zFF jr Z Za Z Z)<|zTk 6 Z (zLf Zn Z)<|zTk 7 Z (zMi Z)<|zTk 8 Z (zIM k jj Z3 Z Z Z (qm hk3))<|zTk 9 Z (zLi Y7 Z)<|zTk 10 Z (yl Z Z)<|zDn<|zz Z (fun cn=>?_) (fun cn=>?_)
    ·have cn : ¬ a.trace[k] = b.trace[k] := by simpa using cn
     refine zSr<|zVzAb Z<|z6<|zf<|zj (x := .bool _) Z ?_
     unfold alikeG; rw [qz]; rintro ⟨h1, h2, h3, h4⟩; exact cn (by simp only [h4])
    ·have cn : a.trace[k] = b.trace[k] := by simpa using cn
     refine ze<|zRg<|zVzAd Z Z<|zVzMi Z<|z6 ?_
     exact ⟨k + 1, zR3, zR1, zLe, ⟨hk2, by rw [qn hk2, qn hk3, hok, cn]⟩, by omega⟩
   ·obtain rfl : k = a.trace.length := by simp at ck; omega
    have ht : a.trace = b.trace := by rw [qr] at hok; rw [hok, cz.2.2.2, qr]
    refine y2<|zSr<|zVzAb Z<|z6<|zf<|zj (x := .bool _) Z ?_
    unfold alikeG; rw [qy]; exact ⟨cz.1, cz.2.1, cz.2.2.1, ht⟩
end Go.Proofs.YtpojdepccecpgaaGreatDoor
namespace Go.Proofs.YtpojdepccecpgaaGreatDoor
open Go.Proofs.Tryz
open Go.Proofs Go.Lib Go.Shelf Go.RowKit
variable {E : World}
set_option maxRecDepth 20000
def smallIn (i : PIn) : Bool := decide (i.args.length ≤ 20) && (decide (i.arrays.length ≤ 40) && i.arrays.all fun r => decide (r.length ≤ 100))
theorem smallIn_spec (i : PIn) (hl : i.args.length ≤ 9223372036854775807) (hl2 : i.arrays.length ≤ 9223372036854775807) : AFun prog E 15 [.agg (encIn i)] (.bool (smallIn i)) := by
 refine zl func15 Z (by decide) Z<|zSr<|y8 (cs := _) Z Z Z<|zVzAb Z<|z6<|zb<|zSr<|zVzFF Y1 Z sizeOf37 Z Z<|zVzLf isAgg37 Z<|zVGvlenM Ym Z<|z8 (yy Z Z)<|zVzMb Z<|zo (s := 9) Z (fun c1=>?_) (fun c1=>?_)
 ·refine z7 Z Z c1<|z7 Z Z c1<|z7 Z Z c1<|z7 Z Z c1<|zVzPt Z c1 Z<|z6<|yq Z Z<|zSr<|zVzAb Z<|z6<|zf<|zj (x := .bool _) Z ?_
  unfold smallIn; rw [qz (fun h => by simp at c1; omega)]; rfl
 ·have h1 : i.args.length ≤ 20 := by simp at c1; omega
  refine za Z Z c1<|zVzFF Y1 Z Y0 Z Z<|za Z Z c1<|zVzLf Yf Z<|za Z Z c1<|zVGvlenM Z7 Z<|za Z Z c1<|z8 (yy Z Z)<|zVzPf Z c1 Z<|z6<|zz Z (fun c2=>?_) (fun c2=>?_)
  ·refine zSr<|zVzAb Z<|z6<|zf<|zj (x := .bool _) Z ?_
   unfold smallIn; rw [qy h1, qz (fun h => by simp at c2; omega)]; rfl
  ·have h2 : i.arrays.length ≤ 40 := by simp at c2; omega
   refine ze<|zb<|zSr<|zVzFF Y1 Z Y0 Z Z<|zVzLf Yf Z<|zVGvlenM Z7 Z<|zVzMi Z<|z6<|zh<|y3 (γ := Nat) [16, 17] (fun k => [(18, .int .i64 k)]) (fun k => []) (fun k => k ≤ i.arrays.length ∧ ∀ r ∈ i.arrays.take k, r.length ≤ 100) (fun k => i.arrays.length - k) 0 zR1 zLe (⟨qp _, fun _ h => by cases h⟩) ?_
   rintro k ⟨hk, hall⟩
   refine zSr<|zVGvlss Z Z<|z6<|zb<|zk Z (fun ck=>?_) (fun ck=>?_)
   ·have hk2 : k < i.arrays.length := by omega
    refine ze<|zb<|zh<|zSr<|z8 (zIM k Z7 Za Z Z Z (qm hk2))<|zVzLf Zn Z<|z8 (zAf Z)<|z6<|zSr<|zVzMf Z<|zVGvlenM jj Z<|z8 (yy Z Z)<|z6<|zk Z (fun cr=>?_) (fun cr=>?_)
    ·refine zSr<|zVzAb Z<|z6<|zf<|zj (x := .bool _) Z ?_
     unfold smallIn; rw [qy h1, qy h2, Bool.true_and, Bool.true_and]; exact jb (List.all_eq_false.2 ⟨i.arrays[k], qq hk2, by simp; omega⟩).symm
    ·have hall2 : ∀ r ∈ i.arrays.take (k + 1), r.length ≤ 100 := fun r hr => by
      rw [qn hk2] at hr
      rcases List.mem_append.1 hr with h | h
      ·exact hall r h
      ·rw [List.mem_singleton.1 h]; omega
     refine ze<|zRg<|zVzAd Z Z<|zVzMi Z<|z6 ?_
     exact ⟨k + 1, zR2, zR1, zLe, ⟨hk2, hall2⟩, by omega⟩
   ·obtain rfl : k = i.arrays.length := by omega
    rw [qr] at hall
    refine y2<|zSr<|zVzAb Z<|z6<|zf<|zj (x := .bool _) Z ?_
    unfold smallIn; rw [qy h1, qy h2, Bool.true_and, Bool.true_and]; exact jb (List.all_eq_true.2 fun r hr => qy (hall r hr)).symm
end Go.Proofs.YtpojdepccecpgaaGreatDoor
namespace Go.Proofs.YtpojdepccecpgaaGreatDoor
open Go.Proofs.Tryz
def V (s : GS) (v : Int) : Int × Bool × Int := (vi s.ints v, gb s.bools v, vi s.arrs v)
theorem vi_ne {l : List Int} {d v x : Int} (h0 : 0 ≤ d) (g0 : 0 ≤ v) (hne : v ≠ d) : vi (l.set d.toNat x) v = vi l v := by
 unfold vi; rw [List.getElem?_set_ne (by omega)]
theorem vi_eq {l : List Int} {d x : Int} (h0 : 0 ≤ d) (h1 : d < l.length) : vi (l.set d.toNat x) d = x := by
 unfold vi; rw [List.getElem?_set_self (by omega)]; rfl
theorem gb_ne {l : List Bool} {d v : Int} {x : Bool} (h0 : 0 ≤ d) (g0 : 0 ≤ v) (hne : v ≠ d) : gb (l.set d.toNat x) v = gb l v := by
 unfold gb; rw [List.getElem?_set_ne (by omega)]
theorem gb_eq {l : List Bool} {d : Int} {x : Bool} (h0 : 0 ≤ d) (h1 : d < l.length) : gb (l.set d.toNat x) d = x := by
 unfold gb; rw [List.getElem?_set_self (by omega)]; rfl
inductive Act where
 | stop (e : Int)
 | i (v : Int)
 | b (v : Bool)
 | a (v : Int)
 | all (v : Int × Bool × Int)
 | row (l : List (List Int))
 | new (l : List (List Int)) (v : Int)
 | out (l : List Int)
def act (s : GS) (d : Int) : Act → GS
 | .stop e => stopG s e
 | .i v => stI s d v
 | .b v => stB s d v
 | .a v => stA s d v
 | .all v => stA (stB (stI s d v.1) d v.2.1) d v.2.2
 | .row l => { s with arrays := l }
 | .new l v => stA { s with arrays := l } d v
 | .out l => { s with trace := l }
def actG (s : GS) (x : PInst) : Act :=
 if x.op = 0 then .i x.num
 else if x.op = 1 ∨ x.op = 25 ∨ x.op = 26 then .all (aG s x, pG s x, rG s x)
 else if x.op = 2 then .i (IntKind.i64.wrap (op3 0 (aG s x) (bG s x)))
 else if x.op = 3 then .i (IntKind.i64.wrap (op3 1 (aG s x) (bG s x)))
 else if x.op = 4 then .i (IntKind.i64.wrap (op3 2 (aG s x) (bG s x)))
 else if x.op = 5 then (if bG s x = 0 then .stop 2 else .i (quoG (aG s x) (bG s x)))
 else if x.op = 6 then (if bG s x = 0 then .stop 2 else .i (remG (aG s x) (bG s x)))
 else if x.op = 7 then .b (decide (aG s x = bG s x))
 else if x.op = 8 then .b (decide (aG s x < bG s x))
 else if x.op = 9 then .b (decide (aG s x ≤ bG s x))
 else if x.op = 10 then .b (!pG s x)
 else if x.op = 11 then .b (pG s x && qG s x)
 else if x.op = 12 then (if rG s x < 0 then .stop 2 else .i ((rowG s (rG s x)).length))
 else if x.op = 13 then (if placeG s (rG s x) (bG s x) = true then .i (vi (rowG s (rG s x)) (bG s x)) else .stop 2)
 else if x.op = 14 then (if placeG s (rG s x) (bG s x) = true then .row (s.arrays.set (rG s x).toNat ((rowG s (rG s x)).set (bG s x).toNat (vi s.ints (ar2 x)))) else .stop 2)
 else if x.op = 15 then (if aG s x < 0 ∨ 64 < aG s x then .stop 2 else if 32 ≤ s.arrays.length then .stop 3 else .new (s.arrays ++ [List.replicate (aG s x).toNat 0]) s.arrays.length)
 else if x.op = 16 then .a (-1)
 else (if 4096 ≤ s.trace.length then .stop 3 else .out (s.trace ++ [aG s x]))
theorem ite_act {s : GS} {d : Int} {c : Prop} [Decidable c] {p q : GS} {u v : Act} (h1 : c → p = act s d u) (h2 : ¬ c → q = act s d v) : (if c then p else q) = act s d (if c then u else v) := by
 by_cases h : c
 ·rw [if_pos h, if_pos h]; exact h1 h
 ·rw [if_neg h, if_neg h]; exact h2 h
theorem do_act (s : GS) (x : PInst) : doG s x = act s x.dst (actG s x) := by
 unfold doG actG
 repeat' (first | rfl | refine ite_act (fun _=>?_) (fun _=>?_))
structure ArgEq (s t : GS) (x y : PInst) : Prop where
 op : x.op = y.op
 num : x.num = y.num
 a0 : 0 < x.args.length → V s (ar0 x) = V t (ar0 y)
 a1 : 1 < x.args.length → V s (ar1 x) = V t (ar1 y)
 a2 : 2 < x.args.length → V s (ar2 x) = V t (ar2 y)
theorem ArgEq.reads {s t : GS} {x y : PInst} (h : ArgEq s t x y) : (0 < x.args.length → aG s x = aG t y ∧ pG s x = pG t y ∧ rG s x = rG t y) ∧ (1 < x.args.length → bG s x = bG t y ∧ qG s x = qG t y) ∧ (2 < x.args.length → vi s.ints (ar2 x) = vi t.ints (ar2 y)) :=
 ⟨fun hl => by have := h.a0 hl; unfold V at this; simp only [Prod.mk.injEq] at this; exact this, fun hl => by have := h.a1 hl; unfold V at this; simp only [Prod.mk.injEq] at this; exact ⟨this.1, this.2.1⟩, fun hl => by have := h.a2 hl; unfold V at this; simp only [Prod.mk.injEq] at this; exact this.1⟩
theorem place_congr {s t : GS} (ha : s.arrays = t.arrays) (a i : Int) : placeG s a i = placeG t a i := by unfold placeG rowG; rw [ha]
theorem row_congr {s t : GS} (ha : s.arrays = t.arrays) (a : Int) : rowG s a = rowG t a := by unfold rowG; rw [ha]
set_option maxRecDepth 4000 in
theorem act_congr {f : PFunc} {s t : GS} {x y : PInst} (hF : InstF f x) (ho : ¬ (18 ≤ x.op ∧ x.op ≤ 24)) (h : ArgEq s t x y) (ha : s.arrays = t.arrays) (htr : s.trace = t.trace) : actG s x = actG t y := by
 obtain ⟨r0, r1, r2⟩ := h.reads
 have hc := hF.argc
 have hop := hF.op
 unfold actG
 simp only [← h.op, ← h.num, ← place_congr ha, ← row_congr ha, ← ha, ← htr]
 obtain ⟨j, hj⟩ : ∃ j : Nat, x.op = (j : Int) := ⟨x.op.toNat, by omega⟩
 rw [hj] at hc ho
 rw [hj]
 have : j = 0 ∨ j = 1 ∨ j = 2 ∨ j = 3 ∨ j = 4 ∨ j = 5 ∨ j = 6 ∨ j = 7 ∨ j = 8 ∨ j = 9 ∨ j = 10 ∨ j = 11 ∨ j = 12 ∨ j = 13 ∨ j = 14 ∨ j = 15 ∨ j = 16 ∨ j = 17 ∨ j = 25 ∨ j = 26 := by omega
 rcases this with rfl | rfl | rfl | rfl | rfl | rfl | rfl | rfl | rfl | rfl | rfl | rfl | rfl | rfl | rfl | rfl | rfl | rfl | rfl | rfl
 all_goals
  have hc : x.args.length = _ := hc
  simp only [Int.toNat_natCast, List.getElem?_cons_zero, List.getElem?_cons_succ, Option.getD_some] at hc
  first
  | (rw [(r0 (by omega)).1, (r0 (by omega)).2.1, (r0 (by omega)).2.2, (r1 (by omega)).1, (r1 (by omega)).2, r2 (by omega)]; done)
  | (rw [(r0 (by omega)).1, (r0 (by omega)).2.1, (r0 (by omega)).2.2, (r1 (by omega)).1, (r1 (by omega)).2]; done)
  | (simp [(r0 (by omega)).1, (r0 (by omega)).2.1, (r0 (by omega)).2.2, (r1 (by omega)).1, (r1 (by omega)).2, r2 (by omega)]; done)
  | (simp [(r0 (by omega)).1, (r0 (by omega)).2.1, (r0 (by omega)).2.2, (r1 (by omega)).1, (r1 (by omega)).2]; done)
  | (simp [(r0 (by omega)).1, (r0 (by omega)).2.1, (r0 (by omega)).2.2]; done)
  | simp
theorem pass_congr {f : PFunc} {s t : GS} {x y : PInst} (hF : InstF f x) (ho : 18 ≤ x.op ∧ x.op ≤ 24) (h : ArgEq s t x y) (hl : x.args.length = y.args.length) (ha : s.arrays = t.arrays) : passG s x.op x.args = passG t y.op y.args := by
 obtain ⟨r0, r1, _⟩ := h.reads
 have hc := hF.argc
 have h0 : 0 < x.args.length := by
  obtain ⟨j, hj⟩ : ∃ j : Nat, x.op = (j : Int) := ⟨x.op.toNat, by omega⟩
  rw [hc, hj]
  have : j = 18 ∨ j = 19 ∨ j = 20 ∨ j = 21 ∨ j = 22 ∨ j = 23 ∨ j = 24 := by omega
  rcases this with rfl | rfl | rfl | rfl | rfl | rfl | rfl <;> decide
 obtain ⟨e1, e2, e3⟩ := r0 h0
 have e1 : vi s.ints ((x.args[0]?).getD 0) = vi t.ints ((y.args[0]?).getD 0) := e1
 have e3 : vi s.arrs ((x.args[0]?).getD 0) = vi t.arrs ((y.args[0]?).getD 0) := e3
 have e4 : bIf x.args s.ints = bIf y.args t.ints := by
  unfold bIf
  by_cases h1 : 1 < x.args.length
  ·rw [if_pos h1, if_pos (by omega)]
   exact (r1 h1).1
  ·rw [if_neg h1, if_neg (by omega)]
 unfold passG
 simp only [h.op, e1, e3, e4, place_congr ha]
theorem V_other {s : GS} {d : Int} {A : Act} {v : Int} (h : 0 ≤ d) (h0 : 0 ≤ v) (hne : v ≠ d) : V (act s d A) v = V s v := by
 cases A <;> unfold V act <;> simp only [stopG, stI, stB, stA, vi_ne h h0 hne, gb_ne h h0 hne]
theorem V_made2 {s t : GS} {d e : Int} {A : Act} {n m : Nat} (h0 : 0 ≤ d) (h1 : d < n) (g0 : 0 ≤ e) (g1 : e < m) (l1 : s.ints.length = n ∧ s.bools.length = n ∧ s.arrs.length = n) (l2 : t.ints.length = m ∧ t.bools.length = m ∧ t.arrs.length = m) (h : V t e = V s d) : V (act t e A) e = V (act s d A) d := by
 unfold V at h
 simp only [Prod.mk.injEq] at h
 obtain ⟨e1, e2, e3⟩ := h
 cases A <;> unfold V act <;> simp only [stopG, stI, stB, stA, e1, e2, e3] <;>
  (try rw [vi_eq h0 (by omega), vi_eq g0 (by omega)]) <;> (try rw [gb_eq h0 (by omega), gb_eq g0 (by omega)]) <;> (try rw [vi_eq h0 (by omega), vi_eq g0 (by omega)])
theorem act_nodst {f : PFunc} {s : GS} {x : PInst} (hF : InstF f x) (ho : ¬ (18 ≤ x.op ∧ x.op ≤ 24)) (hd : x.dst < 0) : (∃ e, actG s x = .stop e) ∨ (∃ l, actG s x = .row l) ∨ ∃ l, actG s x = .out l := by
 have hop := hF.op
 obtain ⟨j, hj⟩ : ∃ j : Nat, x.op = (j : Int) := ⟨x.op.toNat, by omega⟩
 have hm : makesB x.op = false := by
  rcases hF.dst with h | ⟨_, _, h⟩
  ·exact h.1
  ·have := (has_lt h).2; omega
 rw [hj, makesN j (by omega)] at hm
 have : j = 14 ∨ j = 17 := by
  rw [hj] at ho
  have : j = 0 ∨ j = 1 ∨ j = 2 ∨ j = 3 ∨ j = 4 ∨ j = 5 ∨ j = 6 ∨ j = 7 ∨ j = 8 ∨ j = 9 ∨ j = 10 ∨ j = 11 ∨ j = 12 ∨ j = 13 ∨ j = 14 ∨ j = 15 ∨ j = 16 ∨ j = 17 ∨ j = 25 ∨ j = 26 := by omega
  rcases this with h | h | h | h | h | h | h | h | h | h | h | h | h | h | h | h | h | h | h | h
  all_goals (subst h; first | (exact absurd hm (by decide)) | omega)
 unfold actG
 rw [hj]
 rcases this with rfl | rfl
 ·simp; by_cases h : placeG s (rG s x) (bG s x) = true <;> simp [h]
 ·simp; by_cases h : 4096 ≤ s.trace.length <;> simp [h]
theorem V_nodst {s : GS} {d : Int} {A : Act} (h : (∃ e, A = .stop e) ∨ (∃ l, A = .row l) ∨ ∃ l, A = .out l) (v : Int) : V (act s d A) v = V s v := by
 rcases h with ⟨_, rfl⟩ | ⟨_, rfl⟩ | ⟨_, rfl⟩ <;> rfl
theorem assign_act (s t : GS) (p : PPhi) : assign s t p = act t p.dst (.all (V s (phiAt p s.blk))) := rfl
end Go.Proofs.YtpojdepccecpgaaGreatDoor
namespace Go.Proofs.YtpojdepccecpgaaGreatDoor
open Go.Proofs.Tryz
open Go.Proofs Go.Lib
structure SimC (R W : Int → Prop) (β ν : Int → Int) (s t : GS) : Prop where
 rb : R s.blk
 blk : t.blk = β s.blk
 pc : t.pc = s.pc
 en : t.en = s.en
 val : t.val = s.val
 tr : t.tr = s.tr
 trace : t.trace = s.trace
 st : t.st = s.st
 ck : t.ck = s.ck
 arrays : t.arrays = s.arrays
 ended : t.ended = s.ended
 vars : ∀ v, W v → V t (ν v) = V s v
def LenG (s : GS) (n : Nat) : Prop := s.ints.length = n ∧ s.bools.length = n ∧ s.arrs.length = n
theorem act_len {s : GS} {d : Int} {A : Act} {n : Nat} (h : LenG s n) : LenG (act s d A) n := by
 obtain ⟨h1, h2, h3⟩ := h
 cases A <;> unfold act LenG <;> simp [stopG, stI, stB, stA, h1, h2, h3]
theorem step_in {f : PFunc} {s : GS} {x : PInst} (h : (blkG f s.blk).insts[s.pc]? = some x) : stepG f s = instG { s with pc := s.pc + 1, st := s.st + 1 } x := by unfold stepG; rw [h]
theorem step_out {f : PFunc} {s : GS} (h : (blkG f s.blk).insts[s.pc]? = none) : stepG f s = if (blkG f s.blk).term.kind = 2 then stopG { s with st := s.st + 1, val := vi s.ints (blkG f s.blk).term.var } 0 else enterG f { s with st := s.st + 1 } (nextG f s) := by unfold stepG; rw [h]
theorem phi_at (p : PPhi) (b : Int) : phiAt p b = (lookP p b).getD (-1) := by
 unfold phiAt lookP prs
 cases List.find? (fun q : Int × Int => decide (q.1 = b)) (p.from_.zip p.args) <;> rfl
def PhRel (P : PPhi → PPhi → Prop) : List PPhi → List PPhi → Prop
 | [], [] => True
 | p :: l, q :: m => P p q ∧ PhRel P l m
 | _, _ => False
theorem PhRel.of {P : PPhi → PPhi → Prop} : ∀ {l m : List PPhi}, m.length = l.length → (∀ (i : Nat) (p q : PPhi), l[i]? = some p → m[i]? = some q → P p q) → PhRel P l m
 | [], [], _, _ => trivial
 | [], _ :: _, h, _ => by cases h
 | _ :: _, [], h, _ => by cases h
 | p :: l, q :: m, h, k => ⟨k 0 p q rfl rfl, PhRel.of (by simpa using h) fun i a b ha hb => k (i + 1) a b (by simpa using ha) (by simpa using hb)⟩
theorem PhRel.imp {P Q : PPhi → PPhi → Prop} (hi : ∀ p q, P p q → Q p q) : ∀ {l m : List PPhi}, PhRel P l m → PhRel Q l m
 | [], [], _ => trivial
 | [], _ :: _, h => h
 | _ :: _, [], h => h
 | _ :: _, _ :: _, h => ⟨hi _ _ h.1, PhRel.imp hi h.2⟩
section
variable {R W : Int → Prop} {β ν : Int → Int}
theorem SimC.acts {s t : GS} (hs : SimC R W β ν s t) {n m : Nat} (hi : ∀ u v, W u → W v → ν u = ν v → u = v) (hv : ∀ v, W v → (0 ≤ v ∧ v < n) ∧ 0 ≤ ν v ∧ ν v < m) (l1 : LenG s n) (l2 : LenG t m) {d e : Int} {A : Act} (hd : (W d ∧ e = ν d) ∨ ((∃ e, A = .stop e) ∨ (∃ l, A = .row l) ∨ ∃ l, A = .out l)) : SimC R W β ν (act s d A) (act t e A) := by
 have hvars : ∀ v, W v → V (act t e A) (ν v) = V (act s d A) v := fun v hw => by
  rcases hd with ⟨hd, rfl⟩ | hd
  ·have h1 := hv d hd
   by_cases e : v = d
   ·subst e
    exact V_made2 h1.1.1 h1.1.2 h1.2.1 h1.2.2 l1 l2 (hs.vars v hd)
   ·rw [V_other h1.1.1 (hv v hw).1.1 e, V_other h1.2.1 (hv v hw).2.1 fun k => e (hi v d hw hd k)]
    exact hs.vars v hw
  ·rw [V_nodst hd, V_nodst hd]; exact hs.vars v hw
 obtain ⟨a1, a2, a3, a4, a5, a6, a7, a8, a9, a10, a11, _⟩ := hs
 cases A <;> exact ⟨a1, a2, a3, by first | exact a4 | rfl, a5, a6, by first | exact a7 | rfl, a8, a9, by first | exact a10 | rfl, by first | exact a11 | rfl, hvars⟩
theorem SimC.folds {s t : GS} {n m : Nat} (hi : ∀ u v, W u → W v → ν u = ν v → u = v) (hv : ∀ v, W v → (0 ≤ v ∧ v < n) ∧ 0 ≤ ν v ∧ ν v < m) (hst : ∀ v, W v → V t (ν v) = V s v) : ∀ {l k : List PPhi} {s1 t1 : GS}, PhRel (fun p q => q.dst = ν p.dst ∧ W p.dst ∧ W (phiAt p s.blk) ∧ phiAt q t.blk = ν (phiAt p s.blk)) l k → SimC R W β ν s1 t1 → LenG s1 n → LenG t1 m → SimC R W β ν (l.foldl (assign s) s1) (k.foldl (assign t) t1) ∧ LenG (l.foldl (assign s) s1) n ∧ LenG (k.foldl (assign t) t1) m
 | [], [], s1, t1, _, h, l1, l2 => ⟨h, l1, l2⟩
 | [], _ :: _, _, _, h, _, _, _ => False.elim h
 | _ :: _, [], _, _, h, _, _, _ => False.elim h
 | p :: l, q :: k, s1, t1, hr, h, l1, l2 => by
  obtain ⟨⟨r1, r2, r3, r4⟩, hr⟩ := hr
  rw [List.foldl_cons, List.foldl_cons]
  have e1 : assign s s1 p = act s1 p.dst (.all (V s (phiAt p s.blk))) := assign_act ..
  have e2 : assign t t1 q = act t1 q.dst (.all (V s (phiAt p s.blk))) := by rw [assign_act, r4, hst _ r3]
  refine SimC.folds hi hv hst hr ?_ ?_ ?_
  ·rw [e1, e2]; exact h.acts hi hv l1 l2 (.inl ⟨r2, r1⟩)
  ·rw [e1]; exact act_len l1
  ·rw [e2]; exact act_len l2
variable {f g : PFunc} (h : Like R W β ν f g) (hRf : RunP f) (hRg : RunP g) (hW : ∀ v, W v → hasV f v = true ∧ hasV g (ν v) = true) (hD : ∀ x, R x → ∀ p ∈ (blkX f x).phis, DistP p)
include h hRf hRg hW hD
omit hRf hRg hW hD in
theorem Like.blkG {x : Int} (hx : R x) : blkG f x = blkX f x ∧ Go.Proofs.YtpojdepccecpgaaGreatDoor.blkG g (β x) = blkX g (β x) := by
 have hr := h.rng x hx
 unfold Go.Proofs.YtpojdepccecpgaaGreatDoor.blkG blkX
 rw [qm (by omega), qm (by omega)]
 exact ⟨rfl, rfl⟩
omit hRg in
theorem SimC.step {s t : GS} (hs : SimC R W β ν s t) (gs : GInv f s) (gt : GInv g t) : SimC R W β ν (stepG f s) (stepG g t) := by
 have hv : ∀ v, W v → (0 ≤ v ∧ v < f.vars.length) ∧ 0 ≤ ν v ∧ ν v < g.vars.length := fun v k => by
  have a := has_lt (hW v k).1
  have b := has_lt (hW v k).2
  exact ⟨⟨a.2, a.1⟩, b.2, b.1⟩
 have ls : LenG s f.vars.length := ⟨gs.li, gs.lb, gs.la⟩
 have lt : LenG t g.vars.length := ⟨gt.li, gt.lb, gt.la⟩
 have hr := h.rng _ hs.rb
 have hb := h.blk _ hs.rb
 have hG := h.blkG hs.rb
 have hm := blkX_mem hr.1.1 hr.1.2
 have hgx : (Go.Proofs.YtpojdepccecpgaaGreatDoor.blkG g t.blk).insts[t.pc]? = ((blkX f s.blk).insts[s.pc]?).map (insM ν) := by rw [hs.blk, hG.2, hb.insts, hs.pc, qu]
 cases hx : (blkX f s.blk).insts[s.pc]? with
 | some x =>
  rw [step_in (f := f) (s := s) (by rw [hG.1]; exact hx), step_in (f := g) (s := t) (x := insM ν x) (by rw [hgx, hx]; rfl), hs.pc]
  have hxm := qv hx
  have hF := (hRf.insts _ hm x hxm).1
  have hiv := hb.instv x hxm
  have h0 : SimC R W β ν { s with pc := s.pc + 1, st := s.st + 1 } { t with pc := s.pc + 1, st := t.st + 1 } := ⟨hs.rb, hs.blk, rfl, hs.en, hs.val, hs.tr, hs.trace, by show t.st + 1 = s.st + 1; rw [hs.st], hs.ck, hs.arrays, hs.ended, hs.vars⟩
  have l0 : LenG { s with pc := s.pc + 1, st := s.st + 1 } f.vars.length := ls
  have k0 : LenG { t with pc := s.pc + 1, st := t.st + 1 } g.vars.length := lt
  generalize ({ s with pc := s.pc + 1, st := s.st + 1 } : GS) = s0 at h0 l0
  generalize ({ t with pc := s.pc + 1, st := t.st + 1 } : GS) = t0 at h0 k0
  have hargs : ∀ (i : Nat), i < x.args.length → V s0 ((x.args[i]?).getD 0) = V t0 (((insM ν x).args[i]?).getD 0) := fun i hi => by
   show _ = V t0 (((x.args.map ν)[i]?).getD 0)
   rw [qu, qm hi]
   exact (h0.vars _ (hiv _ (List.mem_append_left _ (qq hi)))).symm
  have hA : ArgEq s0 t0 x (insM ν x) := ⟨rfl, rfl, fun hl => hargs 0 hl, fun hl => hargs 1 hl, fun hl => hargs 2 hl⟩
  unfold instG
  by_cases ho : 18 ≤ x.op ∧ x.op ≤ 24
  ·have hp := pass_congr hF ho hA (qt ..).symm h0.arrays.symm
   have hp : passG s0 x.op x.args = passG t0 (insM ν x).op (insM ν x).args := hp
   rw [if_pos ho, if_pos (show 18 ≤ (insM ν x).op ∧ (insM ν x).op ≤ 24 from ho), ← hp]
   have hbp : SimC R W β ν (bumpG s0 (x.op - 17).toNat) (bumpG t0 (x.op - 17).toNat) := ⟨h0.rb, h0.blk, h0.pc, h0.en, h0.val, h0.tr, h0.trace, h0.st, by unfold bumpG; dsimp only; rw [h0.ck], h0.arrays, h0.ended, h0.vars⟩
   by_cases hq : passG s0 x.op x.args = true
   ·rw [if_pos hq, if_pos hq]; exact hbp
   ·rw [if_neg hq, if_neg hq]
    exact ⟨hbp.rb, hbp.blk, hbp.pc, rfl, hbp.val, rfl, hbp.trace, hbp.st, hbp.ck, hbp.arrays, rfl, hbp.vars⟩
  ·rw [if_neg ho, if_neg (show ¬ (18 ≤ (insM ν x).op ∧ (insM ν x).op ≤ 24) from ho), do_act, do_act, ← act_congr hF ho hA h0.arrays.symm h0.trace.symm]
   refine h0.acts h.vinj hv l0 k0 ?_
   rw [insM_dst]
   by_cases hd : 0 ≤ x.dst
   ·rw [if_pos hd]
    exact .inl ⟨hiv _ (by unfold instVars; rw [if_pos hd]; simp), rfl⟩
   ·exact .inr (act_nodst hF ho (by omega))
 | none =>
  have ht := hRf.term _ hm
  have htv := hb.termv
  have hend : ∀ c ∈ endsL (blkX f s.blk).term, R c := by rw [← ends_at hr.1.1 hr.1.2]; exact h.cl _ hs.rb
  have hnx : nextG f s = if (blkX f s.blk).term.kind = 0 ∨ gb s.bools (blkX f s.blk).term.var = true then (blkX f s.blk).term.to0 else (blkX f s.blk).term.to1 := by unfold nextG; rw [hG.1]
  have hnx2 : nextG g t = if (trmM ν β (blkX f s.blk).term).kind = 0 ∨ gb t.bools (trmM ν β (blkX f s.blk).term).var = true then (trmM ν β (blkX f s.blk).term).to0 else (trmM ν β (blkX f s.blk).term).to1 := by unfold nextG; rw [hs.blk, hG.2, hb.term]
  have htm : (Go.Proofs.YtpojdepccecpgaaGreatDoor.blkG g t.blk).term = trmM ν β (blkX f s.blk).term := by rw [hs.blk, hG.2, hb.term]
  rw [step_out (f := f) (s := s) (by rw [hG.1]; exact hx), step_out (f := g) (s := t) (by rw [hgx, hx]; rfl), hnx, hnx2, htm, hG.1]
  generalize (blkX f s.blk).term = u at ht htv hend
  have hk : (trmM ν β u).kind = u.kind := by unfold trmM; split; rfl; split <;> rfl
  rw [hk]
  by_cases h2 : u.kind = 2
  ·rw [if_pos h2, if_pos h2]
   have hvr : (trmM ν β u).var = ν u.var := by unfold trmM; rw [if_neg (by omega), if_neg (by omega)]
   have hw : W u.var := htv _ (by unfold termVars; rw [if_neg (by omega)]; exact .head _)
   have := hs.vars _ hw
   unfold V at this
   simp only [Prod.mk.injEq] at this
   refine ⟨hs.rb, hs.blk, hs.pc, Z, ?_, hs.tr, hs.trace, by show t.st + 1 = s.st + 1; rw [hs.st], hs.ck, hs.arrays, rfl, hs.vars⟩
   show vi t.ints (trmM ν β u).var = vi s.ints u.var
   rw [hvr]; exact this.1
  ·rw [if_neg h2, if_neg h2]
   have hto : ∃ c, R c ∧ (if u.kind = 0 ∨ gb s.bools u.var = true then u.to0 else u.to1) = c ∧ (if u.kind = 0 ∨ gb t.bools (trmM ν β u).var = true then (trmM ν β u).to0 else (trmM ν β u).to1) = β c := by
    unfold endsL at hend
    by_cases k0 : u.kind = 0
    ·rw [if_pos k0] at hend
     refine ⟨u.to0, hend _ (.head _), if_pos (.inl k0), ?_⟩
     rw [if_pos (.inl k0)]; unfold trmM; rw [if_pos k0]
    ·rw [if_neg k0] at hend
     have k1 : u.kind = 1 := by
      unfold termOK at ht
      rw [if_neg k0] at ht
      by_cases k1 : u.kind = 1
      ·exact k1
      ·rw [if_neg k1, if_neg h2] at ht; cases ht
     rw [if_pos k1] at hend
     have hw : W u.var := htv _ (by unfold termVars; rw [if_neg k0]; exact .head _)
     have hvv := hs.vars _ hw
     unfold V at hvv
     simp only [Prod.mk.injEq] at hvv
     have et : trmM ν β u = ⟨u.kind, ν u.var, β u.to0, β u.to1⟩ := by unfold trmM; rw [if_neg k0, if_pos k1]
     rw [et]
     dsimp only
     rw [hvv.2.1]
     have r0 : R u.to0 := hend _ (by split <;> simp)
     have r1 : R u.to1 := by
      by_cases e : u.to0 = u.to1
      ·rw [← e]; exact r0
      ·exact hend _ (by rw [if_neg e]; simp)
     by_cases c : u.kind = 0 ∨ gb s.bools u.var = true
     ·exact ⟨u.to0, r0, if_pos c, if_pos c⟩
     ·exact ⟨u.to1, r1, if_neg c, if_neg c⟩
   obtain ⟨c, hc, e1, e2⟩ := hto
   rw [e1, e2]
   have hGc := h.blkG hc
   have hbc := h.blk _ hc
   have h0 : SimC R W β ν { s with st := s.st + 1 } { t with st := t.st + 1 } := ⟨hs.rb, hs.blk, hs.pc, hs.en, hs.val, hs.tr, hs.trace, by show t.st + 1 = s.st + 1; rw [hs.st], hs.ck, hs.arrays, hs.ended, hs.vars⟩
   have l0 : LenG { s with st := s.st + 1 } f.vars.length := ls
   have k0 : LenG { t with st := t.st + 1 } g.vars.length := lt
   have sb : ({ s with st := s.st + 1 } : GS).blk = s.blk := rfl
   have tb : ({ t with st := t.st + 1 } : GS).blk = β s.blk := hs.blk
   generalize ({ s with st := s.st + 1 } : GS) = s0 at h0 l0 sb
   generalize ({ t with st := t.st + 1 } : GS) = t0 at h0 k0 tb
   have hrel : PhRel (fun p q => q.dst = ν p.dst ∧ W p.dst ∧ (0 ≤ phiAt p s0.blk ↔ 0 ≤ phiAt q t0.blk) ∧ (0 ≤ phiAt p s0.blk → W (phiAt p s0.blk) ∧ phiAt q t0.blk = ν (phiAt p s0.blk))) (blkX f c).phis (blkX g (β c)).phis := by
    refine PhRel.of hbc.nphi fun i p q hp hq => ?_
    obtain ⟨d1, d2, _⟩ := hbc.phi i p q hp hq
    obtain ⟨hl, hlv⟩ := h.look hD hc hs.rb hp hq
    refine ⟨d1, d2, ?_⟩
    rw [phi_at, phi_at, sb, tb, hl]
    cases ha : lookP p s.blk with
    | none => exact ⟨Iff.rfl, fun k => absurd k (by decide)⟩
    | some a =>
     have hw := hlv a ha
     have := hv a hw
     exact ⟨⟨fun _ => this.2.1, fun _ => this.1.1⟩, fun _ => ⟨hw, rfl⟩⟩
   have hall : ∀ {l k : List PPhi}, PhRel (fun p q => q.dst = ν p.dst ∧ W p.dst ∧ (0 ≤ phiAt p s0.blk ↔ 0 ≤ phiAt q t0.blk) ∧ (0 ≤ phiAt p s0.blk → W (phiAt p s0.blk) ∧ phiAt q t0.blk = ν (phiAt p s0.blk))) l k →
     k.all (fun p => decide (0 ≤ phiAt p t0.blk)) = l.all (fun p => decide (0 ≤ phiAt p s0.blk)) ∧ (l.all (fun p => decide (0 ≤ phiAt p s0.blk)) = true → PhRel (fun p q => q.dst = ν p.dst ∧ W p.dst ∧ W (phiAt p s0.blk) ∧ phiAt q t0.blk = ν (phiAt p s0.blk)) l k) := by
    intro l
    induction l with
    | nil => intro k; cases k with
     | nil => exact fun _ => ⟨rfl, fun _ => trivial⟩
     | cons => exact fun h => h.elim
    | cons p l ih => intro k; cases k with
     | nil => exact fun h => h.elim
     | cons q k =>
      rintro ⟨⟨r1, r2, r3, r4⟩, hr⟩
      obtain ⟨i1, i2⟩ := ih hr
      refine ⟨?_, fun ha=>?_⟩
      ·rw [List.all_cons, List.all_cons, i1]
       congr 1
       exact decide_eq_decide.2 r3.symm
      ·rw [List.all_cons, w0, w4] at ha
       exact ⟨⟨r1, r2, r4 ha.1⟩, i2 ha.2⟩
   obtain ⟨i1, i2⟩ := hall hrel
   unfold enterG
   rw [hGc.1, hGc.2, i1]
   by_cases ha : (blkX f c).phis.all (fun p => decide (0 ≤ phiAt p s0.blk)) = true
   ·rw [if_pos ha, if_pos ha]
    have hf := (SimC.folds h.vinj hv h0.vars (i2 ha) h0 l0 k0).1
    exact ⟨hc, rfl, rfl, hf.en, hf.val, hf.tr, hf.trace, hf.st, hf.ck, hf.arrays, hf.ended, hf.vars⟩
   ·rw [if_neg ha, if_neg ha]
    exact ⟨hc, rfl, rfl, rfl, h0.val, h0.tr, h0.trace, h0.st, h0.ck, h0.arrays, rfl, h0.vars⟩
theorem SimC.run : ∀ (k : Nat) {s t : GS}, SimC R W β ν s t → GInv f s → GInv g t → SimC R W β ν (runG f k s) (runG g k t)
 | 0, _, _, hs, _, _ => hs
 | k + 1, s, t, hs, gs, gt => by
  unfold runG
  rw [hs.ended]
  by_cases e : s.ended = true
  ·rw [if_pos e, if_pos e]; exact hs
  ·rw [if_neg e, if_neg e]
   exact SimC.run k (hs.step h hRf hW hD gs gt) (gs.step hRf) (gt.step hRg)
end
end Go.Proofs.YtpojdepccecpgaaGreatDoor
namespace Go.Proofs.YtpojdepccecpgaaGreatDoor
open Go.Proofs.Tryz
open Go.Proofs Go.Lib
theorem fill_in {α β : Type} {G : Nat → α → β} {d : β} {n : Nat} {l : List α} {v : Nat} {a : α} (h : l[v]? = some a) : (fillW G d n l)[v]? = some (G v a) := by
 obtain ⟨hv, _⟩ := List.getElem?_eq_some_iff.1 h
 unfold fillW
 rw [List.getElem?_append_left (by simpa using hv), qu, List.getElem?_zipIdx, h]
 show some (G (0 + v) a) = _
 rw [Nat.zero_add]
theorem fill_out {α β : Type} {G : Nat → α → β} {d : β} {n : Nat} {l : List α} {v : Nat} (hl : l.length ≤ v) (hv : v < n) : (fillW G d n l)[v]? = some d := by
 unfold fillW
 rw [List.getElem?_append_right (by simpa using hl), List.getElem?_replicate, qt, List.length_zipIdx, if_pos (by omega)]
section
variable {R W : Int → Prop} {β ν : Int → Int} {f g : PFunc} (h : Like R W β ν f g) (hS : ShapedP f)
include h hS
theorem Like.tyP {j : Nat} (hj : j < f.params.length) : tyL g j = tyL f j ∧ W (j : Int) ∧ ν j = j := by
 have hm : (j : Int) ∈ f.params := by rw [← hS.2.1 j hj]; exact qq hj
 obtain ⟨h1, h2⟩ := h.parv _ hm
 have := (h.vty _ h1).2.2
 rw [h2] at this
 exact ⟨this, h1, h2⟩
theorem Like.right (i : PIn) : rightG g i = rightG f i := by
 unfold rightG
 rw [h.par]
 by_cases hl : i.args.length = f.params.length
 ·rw [if_neg (not_not_intro hl), if_neg (not_not_intro hl)]
  have : i.args.zipIdx.any (badArg g i) = i.args.zipIdx.any (badArg f i) := by
   rw [Bool.eq_iff_iff, List.any_eq_true, List.any_eq_true]
   have e : ∀ q ∈ i.args.zipIdx, badArg g i q = badArg f i q := fun q hq => by
    have := (List.getElem?_eq_some_iff.1 (List.mem_zipIdx_iff_getElem?.1 hq)).1
    unfold badArg
    rw [(h.tyP hS (j := q.2) (by omega)).1]
   exact ⟨fun ⟨q, hq, k⟩ => ⟨q, hq, by rw [← e q hq]; exact k⟩, fun ⟨q, hq, k⟩ => ⟨q, hq, by rw [e q hq]; exact k⟩⟩
  rw [this]
 ·rw [if_pos hl, if_pos hl]
theorem Like.beg (hW : ∀ v, W v → hasV f v = true ∧ hasV g (ν v) = true) {i : PIn} (hl : i.args.length = f.params.length) : SimC R W β ν (begG f i) (begG g i) := by
 refine ⟨h.r0, h.b0.symm, Z, Z, Z, Z, Z, Z, Z, Z, Z, fun v hv => ?_⟩
 have a := has_lt (hW v hv).1
 have b := has_lt (hW v hv).2
 by_cases hp : v < f.params.length
 ·obtain ⟨t1, t2, t3⟩ := h.tyP hS (j := v.toNat) (by omega)
  rw [w3 a.2] at t3
  rw [t3]
  have hg := qm (l := i.args) (i := v.toNat) (by omega)
  unfold V vi gb begG
  dsimp only
  rw [fill_in hg, fill_in hg, fill_in hg, fill_in hg, fill_in hg, fill_in hg]
  unfold begI begB begA
  rw [t1]
 ·have hn : ¬ ν v < f.params.length := fun k => by
   obtain ⟨t1, t2, t3⟩ := h.tyP hS (j := (ν v).toNat) (by omega)
   rw [w3 b.2] at t2 t3
   have := h.vinj _ _ t2 hv t3
   omega
  unfold V vi gb begG
  dsimp only
  rw [fill_out (by omega) (by omega), fill_out (by omega) (by omega), fill_out (by omega) (by omega), fill_out (by omega) (by omega), fill_out (by omega) (by omega), fill_out (by omega) (by omega)]
end
end Go.Proofs.YtpojdepccecpgaaGreatDoor
namespace Go.Proofs.YtpojdepccecpgaaGreatDoor
open Go.Proofs.Tryz
open Go.Proofs Go.Lib
theorem shaped_run {f : PFunc} (h : ShapedP f) (h64 : ∀ b ∈ f.blocks, ∀ x ∈ b.insts, is64 x.num) : RunP f := by
 have h1 := h.1
 unfold bad1 at h1
 simp only [Bool.or_eq_false_iff, decide_eq_false_iff_not] at h1
 obtain ⟨_, _, _, _, _, h6⟩ := h
 exact ⟨by omega, fun b hb => (h6 b hb).1, fun b hb x hx => ⟨instP_F ((h6 b hb).2.1 x hx), h64 b hb x hx⟩, fun b hb => (h6 b hb).2.2⟩
theorem shaped_pars {f : PFunc} (h : ShapedP f) : f.params.length ≤ f.vars.length := by
 have h1 := h.1
 unfold bad1 at h1
 simp only [Bool.or_eq_false_iff, decide_eq_false_iff_not] at h1
 omega
theorem shaped_tys {f : PFunc} (h : ShapedP f) (j : Nat) : 0 ≤ tyL f j ∧ tyL f j ≤ 2 := by
 obtain ⟨_, _, h3, _⟩ := h
 unfold tyL
 by_cases hj : j < f.vars.length
 ·rw [qm hj]; exact ⟨(h3 j hj).2.1, (h3 j hj).2.2.1⟩
 ·rw [List.getElem?_eq_none (by omega)]; exact ⟨by decide, by decide⟩
theorem ginv_run {f : PFunc} (hR : RunP f) : ∀ (k : Nat) (s : GS), GInv f s → GInv f (runG f k s)
 | 0, _, h => h
 | k + 1, s, h => by
  unfold runG
  split
  ·exact h
  ·exact ginv_run hR k _ (h.step hR)
end Go.Proofs.YtpojdepccecpgaaGreatDoor
