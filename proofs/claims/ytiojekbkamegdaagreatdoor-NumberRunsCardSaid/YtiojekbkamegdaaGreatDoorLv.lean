/- A run of the document's machine; may an input be; are two outcomes alike. Of inputs that are little. -/
import Derived.Test.YtiojekbkamegdaaGreatDoorLu
import Derived.Test.YtiojekbkamegdaaGreatDoorLh
set_option linter.unusedVariables false
set_option linter.unusedSimpArgs false
set_option linter.unusedSectionVars false
namespace Go.Proofs.YtiojekbkamegdaaGreatDoor
open Go.Proofs.Tryz
open Go.Proofs Go.Lib Go.Shelf Go.RowKit
theorem pl100 : Places prog 100 #[(0, 3), (3, 1), (4, 1), (5, 1), (6, 1), (7, 1), (8, 1), (9, 13), (22, 1)] [.raw (.slice none 0 0), .raw (.slice none 0 0), .raw (.slice none 0 0), .raw (.slice none 0 0), .raw (.slice none 0 0), .raw (.slice none 0 0), .raw (.slice none 0 0), .int .i64 0, .int .i64 0, .int .i64 0, .int .i64 0, .int .i64 0, .raw (.slice none 0 0), .int .i64 0, .int .i64 0, .int .i64 0, .int .i64 0, .int .i64 0, .int .i64 0, .int .i64 0, .int .i64 0, .int .i64 0, .bool false] := ⟨_, _, j8, zeroValue100, fun w => by kernel_rfl, rfl⟩
variable {E : World}
set_option maxRecDepth 20000
def encArg (a : PArg) : List AV := [.int .i64 a.int, .bool a.b, .int .i64 a.arr]
def encArr (r : List Int) : List AV := [.fro 1 (r.map encI)]
def encIn (i : PIn) : List AV := [.fro 3 (i.args.map encArg), .fro 1 (i.arrays.map encArr)]
def encOut (s : GS) : List AV := [.int .i64 s.en, .int .i64 s.val, .int .i64 s.tr, .fro 1 (s.trace.map encI), .int .i64 s.st, .int .i64 (s.ck 0), .int .i64 (s.ck 1), .int .i64 (s.ck 2), .int .i64 (s.ck 3), .int .i64 (s.ck 4), .int .i64 (s.ck 5), .int .i64 (s.ck 6), .int .i64 (s.ck 7)]
def fillM (n k : Nat) : List Int := List.replicate k (-1) ++ List.replicate (n - k) 0
theorem fillM_0 (n : Nat) : fillM n 0 = List.replicate n 0 := by unfold fillM; simp
theorem fillM_n (n : Nat) : fillM n n = List.replicate n (-1) := by unfold fillM; simp
theorem fillM_len {n k : Nat} (h : k ≤ n) : (fillM n k).length = n := by unfold fillM; simp; omega
theorem fillM_set {n k : Nat} (h : k < n) : (fillM n k).set k (-1) = fillM n (k + 1) := by
 unfold fillM
 rw [List.set_append_right _ _ (by simp), List.length_replicate, Nat.sub_self, show n - k = (n - (k + 1)) + 1 by omega, List.replicate_succ, List.set_cons_zero, List.replicate_succ', qs]; rfl
section
variable {α β : Type} {g : Nat → α → β} {d : β} {n k : Nat} {l : List α}
theorem fill_0 : fillW g d n (l.take 0) = List.replicate n d := by unfold fillW; simp
theorem fill_len (h : l.length ≤ n) : (fillW g d n l).length = n := by unfold fillW; simp; omega
theorem fill_take (h : l.length ≤ n) (k : Nat) : (fillW g d n (l.take k)).length = n := fill_len (by rw [w3]; omega)
theorem fill_set (hk : k < l.length) (h : l.length ≤ n) : (fillW g d n (l.take k)).set k (g k l[k]) = fillW g d n (l.take (k + 1)) := by
 have hl : ((l.take k).zipIdx.map fun q => g q.2 q.1).length = k := by simp; omega
 unfold fillW
 rw [List.set_append_right _ _ (by rw [hl]; exact Nat.le_refl _), hl, Nat.sub_self, w3, w3, Nat.min_eq_left (by omega), Nat.min_eq_left (by omega), show n - k = (n - (k + 1)) + 1 by omega, List.replicate_succ, List.set_cons_zero, qr hk, List.zipIdx_append, w2, qs]
 have : (l.take k).length = k := by rw [w3]; omega
 simp [this]
theorem fill_skip (hk : k < l.length) (h : l.length ≤ n) (e : g k l[k] = d) : fillW g d n (l.take k) = fillW g d n (l.take (k + 1)) := by
 rw [← fill_set hk h, e]
 refine (List.ext_getElem? fun j=>?_)
 by_cases hj : k = j
 ·subst hj
  rw [List.getElem?_set_self (by rw [fill_take h]; omega)]
  have hl : ((l.take k).zipIdx.map fun q => g q.2 q.1).length = k := by simp; omega
  unfold fillW
  rw [List.getElem?_append_right (by rw [hl]; exact Nat.le_refl _), hl, Nat.sub_self, w3, Nat.min_eq_left (by omega), List.getElem?_replicate, if_pos (by omega)]
 ·rw [List.getElem?_set_ne hj]
end
theorem flat_I (r : List Int) : (r.map encI).flatten = cI r := cI_flat r
abbrev begS (ints : List Int) (bools : List Bool) (arrs : List Int) (arrays : List (List Int)) : GS := ⟨ints, bools, arrs, arrays, 0, 0, 3, 0, 0, [], 0, fun _ => 0, false⟩
theorem wO_push (f : PFunc) (iw ja jb jc jo jt : Nat) {ids : List Nat} {s : GS} (h : ids.length = s.arrays.length) (i : Nat) (r : List Int) (m : Nat) (hm : m = r.length) : (iw, AObj.cells 100 (encF f ++ [.own ja f.vars.length, .own jb f.vars.length, .own jc f.vars.length, .own jo (s.arrays.length + 1), .int .i64 s.blk, .int .i64 s.pc, .int .i64 s.en, .int .i64 s.val, .int .i64 s.tr, .own jt s.trace.length, .int .i64 s.st, .int .i64 (s.ck 0), .int .i64 (s.ck 1), .int .i64 (s.ck 2), .int .i64 (s.ck 3), .int .i64 (s.ck 4), .int .i64 (s.ck 5), .int .i64 (s.ck 6), .int .i64 (s.ck 7), .bool s.ended])) :: (ja, .grow 1 2 (cI s.ints)) :: (jb, .grow 1 4 (cB s.bools)) :: (jc, .grow 1 3 (cI s.arrs)) :: (jo, .grow 1 42 (ownsA ids s.arrays ++ [.own i m])) :: (jt, .grow 1 2 (cI s.trace)) :: [(0, bag (bagA (ids ++ [i]) (s.arrays ++ [r])))] = wO f iw ja jb jc jo jt (ids ++ [i]) { s with arrays := s.arrays ++ [r] } := by
 subst hm
 unfold wO wR wCe
 rw [← owns_push i r h]
 simp only [qw, List.length_singleton]
set_option maxHeartbeats 16000000 in
theorem wbegin_spec (f : PFunc) (i : PIn) (hv : f.vars.length ≤ 1000) (ha : i.args.length ≤ f.vars.length) (hn : i.arrays.length ≤ 40) (hr : ∀ r ∈ i.arrays, r.length ≤ 100) : ACall prog E 51 [.agg (encF f), .agg (encIn i)] [] (fun y O => ∃ iw ja jb jc jo jt ids, ids.length = i.arrays.length ∧ y = .po iw 0 ∧ O = wO f iw ja jb jc jo jt ids (begG f i)) := by
 refine zp func51 Z (by decide) Z<|zSr<|yc (cs := _) Z Z Z<|yc (cs := _) Z Z Z<|z8 (zAr Z)<|z2<|zSr<|zVzFF jh Z Ya Z Z<|zVzLf Yk Z<|zVGvlenM Z4 Z<|zVzAi Z<|z2<|zc<|yn (γ := Nat × Nat × Nat × Nat) [2, 3] (fun g => [(6, .po g.1 0)]) (fun g => [(g.1, .cells 100 (encF f ++ [.own g.2.1 f.vars.length, .own g.2.2.1 f.vars.length, .own g.2.2.2 f.vars.length, .raw (.slice none 0 0), .int .i64 0, .int .i64 0, .int .i64 0, .int .i64 0, .int .i64 0, .raw (.slice none 0 0), .int .i64 0, .int .i64 0, .int .i64 0, .int .i64 0, .int .i64 0, .int .i64 0, .int .i64 0, .int .i64 0, .int .i64 0, .bool false])), (g.2.1, .grow 1 2 (cI (List.replicate f.vars.length 0))), (g.2.2.1, .grow 1 4 (cB (List.replicate f.vars.length false))), (g.2.2.2, .grow 1 3 (cI (List.replicate f.vars.length 0)))]) (fun g => True) ?_ (fun _ _ h => h) ?_
 ·refine zr (fun j => false) (by kernel_rfl) Z (zm (.rest _))<|zTk 0 Z (yl jq jj Z Z)<|zTk 1 Z (zMi Z)<|zTk 3 Z (zMi Z)<|zTk 5 Z (zMi Z)<|qg (i := 2) (j := 4) (m := 6) Z Z Z (by kernel_rfl) ?_ ?_ ?_
  ·refine qm (m := f.vars.length) jp Yn Z Z Z Z Z (by simp) (by simp) (by show (8 : Int) * _ ≤ _; omega) (by omega)<|fun i17 => z2<|yi (i := 4) (j := 6) Z Z (by kernel_rfl) ?_ ?_
   ·refine AOps.makeB (m := f.vars.length) jm Yb Z Z Z Z Z (by simp) (by simp) (by show (1 : Int) * _ ≤ _; omega) (by omega)<|fun i19 => z2<|zOn 6 Z<|qm (m := f.vars.length) j6 Zr Z Z Z Z Z (by simp) (by simp) (by show (8 : Int) * _ ≤ _; omega) (by omega)<|fun i21 => z2<|zTk 7 Z (zz (cps := [(0, [_, _, _]), (1, [_]), (2, [_]), (3, [_])]) (rs := [_, _, _, _, _, _, .raw (.slice none 0 0), .int .i64 0, .int .i64 0, .int .i64 0, .int .i64 0, .int .i64 0, .raw (.slice none 0 0), .int .i64 0, .int .i64 0, .int .i64 0, .int .i64 0, .int .i64 0, .int .i64 0, .int .i64 0, .int .i64 0, .int .i64 0, .bool false]) pl100 Z Z Z)<|zOn 8 Z<|yk (cs := _) Z Z Z Z<|fun i23 => zd (za (zb .t1))<|zd (za (zb .t2))<|zd (za (zb .t3))<|zd (za (zb .t3))<|z2<|zTk 9 Z (zAp Z)<|zDn ?_
    exact ⟨(i23, i17, i19, i21), zR2, zR1, zLe, trivial⟩
   ·refine qm (m := f.vars.length) j6 Zr Z Z Z Z Z (by simp) (by simp) (by show (8 : Int) * _ ≤ _; omega) (by omega)<|fun i21 => z2<|zOn 4 Z<|AOps.makeB (m := f.vars.length) jm Yb Z Z Z Z Z (by simp) (by simp) (by show (1 : Int) * _ ≤ _; omega) (by omega)<|fun i19 => z2<|zTk 7 Z (zz (cps := [(0, [_, _, _]), (1, [_]), (2, [_]), (3, [_])]) (rs := [_, _, _, _, _, _, .raw (.slice none 0 0), .int .i64 0, .int .i64 0, .int .i64 0, .int .i64 0, .int .i64 0, .raw (.slice none 0 0), .int .i64 0, .int .i64 0, .int .i64 0, .int .i64 0, .int .i64 0, .int .i64 0, .int .i64 0, .int .i64 0, .int .i64 0, .bool false]) pl100 Z Z Z)<|zOn 8 Z<|yk (cs := _) Z Z Z Z<|fun i23 => zd (za (zb .t2))<|zd (za (zb .t2))<|zd (za (zb .t3))<|zd (za (zb .t3))<|z2<|zTk 9 Z (zAp Z)<|zDn ?_
    exact ⟨(i23, i17, i19, i21), zR2, zR1, zLe, trivial⟩
  ·refine AOps.makeB (m := f.vars.length) jm Yb Z Z Z Z Z (by simp) (by simp) (by show (1 : Int) * _ ≤ _; omega) (by omega)<|fun i19 => z2<|yi (i := 2) (j := 6) Z Z (by kernel_rfl) ?_ ?_
   ·refine qm (m := f.vars.length) jp Yn Z Z Z Z Z (by simp) (by simp) (by show (8 : Int) * _ ≤ _; omega) (by omega)<|fun i17 => z2<|zOn 6 Z<|qm (m := f.vars.length) j6 Zr Z Z Z Z Z (by simp) (by simp) (by show (8 : Int) * _ ≤ _; omega) (by omega)<|fun i21 => z2<|zTk 7 Z (zz (cps := [(0, [_, _, _]), (1, [_]), (2, [_]), (3, [_])]) (rs := [_, _, _, _, _, _, .raw (.slice none 0 0), .int .i64 0, .int .i64 0, .int .i64 0, .int .i64 0, .int .i64 0, .raw (.slice none 0 0), .int .i64 0, .int .i64 0, .int .i64 0, .int .i64 0, .int .i64 0, .int .i64 0, .int .i64 0, .int .i64 0, .int .i64 0, .bool false]) pl100 Z Z Z)<|zOn 8 Z<|yk (cs := _) Z Z Z Z<|fun i23 => zd (za (zb .t1))<|zd (za (zb .t3))<|zd (za (zb .t3))<|zd (za (zb .t3))<|z2<|zTk 9 Z (zAp Z)<|zDn ?_
    exact ⟨(i23, i17, i19, i21), zR2, zR1, zLe, trivial⟩
   ·refine qm (m := f.vars.length) j6 Zr Z Z Z Z Z (by simp) (by simp) (by show (8 : Int) * _ ≤ _; omega) (by omega)<|fun i21 => z2<|zOn 2 Z<|qm (m := f.vars.length) jp Yn Z Z Z Z Z (by simp) (by simp) (by show (8 : Int) * _ ≤ _; omega) (by omega)<|fun i17 => z2<|zTk 7 Z (zz (cps := [(0, [_, _, _]), (1, [_]), (2, [_]), (3, [_])]) (rs := [_, _, _, _, _, _, .raw (.slice none 0 0), .int .i64 0, .int .i64 0, .int .i64 0, .int .i64 0, .int .i64 0, .raw (.slice none 0 0), .int .i64 0, .int .i64 0, .int .i64 0, .int .i64 0, .int .i64 0, .int .i64 0, .int .i64 0, .int .i64 0, .int .i64 0, .bool false]) pl100 Z Z Z)<|zOn 8 Z<|yk (cs := _) Z Z Z Z<|fun i23 => zd (za (zb .t2))<|zd (za (zb .t3))<|zd (za (zb .t3))<|zd (za (zb .t3))<|z2<|zTk 9 Z (zAp Z)<|zDn ?_
    exact ⟨(i23, i17, i19, i21), zR2, zR1, zLe, trivial⟩
  ·refine qm (m := f.vars.length) j6 Zr Z Z Z Z Z (by simp) (by simp) (by show (8 : Int) * _ ≤ _; omega) (by omega)<|fun i21 => z2<|yi (i := 2) (j := 4) Z Z (by kernel_rfl) ?_ ?_
   ·refine qm (m := f.vars.length) jp Yn Z Z Z Z Z (by simp) (by simp) (by show (8 : Int) * _ ≤ _; omega) (by omega)<|fun i17 => z2<|zOn 4 Z<|AOps.makeB (m := f.vars.length) jm Yb Z Z Z Z Z (by simp) (by simp) (by show (1 : Int) * _ ≤ _; omega) (by omega)<|fun i19 => z2<|zTk 7 Z (zz (cps := [(0, [_, _, _]), (1, [_]), (2, [_]), (3, [_])]) (rs := [_, _, _, _, _, _, .raw (.slice none 0 0), .int .i64 0, .int .i64 0, .int .i64 0, .int .i64 0, .int .i64 0, .raw (.slice none 0 0), .int .i64 0, .int .i64 0, .int .i64 0, .int .i64 0, .int .i64 0, .int .i64 0, .int .i64 0, .int .i64 0, .int .i64 0, .bool false]) pl100 Z Z Z)<|zOn 8 Z<|yk (cs := _) Z Z Z Z<|fun i23 => zd (za (zb .t3))<|zd (za (zb .t2))<|zd (za (zb .t3))<|zd (za (zb .t3))<|z2<|zTk 9 Z (zAp Z)<|zDn ?_
    exact ⟨(i23, i17, i19, i21), zR2, zR1, zLe, trivial⟩
   ·refine AOps.makeB (m := f.vars.length) jm Yb Z Z Z Z Z (by simp) (by simp) (by show (1 : Int) * _ ≤ _; omega) (by omega)<|fun i19 => z2<|zOn 2 Z<|qm (m := f.vars.length) jp Yn Z Z Z Z Z (by simp) (by simp) (by show (8 : Int) * _ ≤ _; omega) (by omega)<|fun i17 => z2<|zTk 7 Z (zz (cps := [(0, [_, _, _]), (1, [_]), (2, [_]), (3, [_])]) (rs := [_, _, _, _, _, _, .raw (.slice none 0 0), .int .i64 0, .int .i64 0, .int .i64 0, .int .i64 0, .int .i64 0, .raw (.slice none 0 0), .int .i64 0, .int .i64 0, .int .i64 0, .int .i64 0, .int .i64 0, .int .i64 0, .int .i64 0, .int .i64 0, .int .i64 0, .bool false]) pl100 Z Z Z)<|zOn 8 Z<|yk (cs := _) Z Z Z Z<|fun i23 => z2<|zTk 9 Z (zAp Z)<|zDn ?_
    exact ⟨(i23, i17, i19, i21), zR2, zR1, zLe, trivial⟩
 ·rintro ⟨i23, i17, i19, i21⟩ _
  refine zSr<|zVzMp Z<|zVGvnilCheckO Z<|z8 (ze j8 Z jn (by decide) Z Z)<|z8 (ze ju Z X7 (by decide) Z Z)<|yp (l := [_]) (new := [_, _, _, _, _, _, _, _, _, _, _, _, _, _, _, _, _, _, _, _, _, _, _]) X7 Z Z Z Z Z Z .head Z Z<|z2<|adoptC_wp (off := 6) (k := 1) (T := 42) (fun _ => .head) Z<|fun jo => adoptC_wp (off := 12) (k := 1) (T := 2) (fun _ => .t1) Z<|fun jt => zw GStep.bagNew<|zw (za (zb .head))<|zw (za (zb .t1))<|zw (za (zb .t2))<|zw (za (zb .t6))<|zw (za (zb .t6))<|zw (za (zb .t6))<|zw (za (zb .t6))<|zc<|zSr<|zVzMp Z<|zVGvnilCheckO Z<|z8 (ze j8 Z jd (by decide) Z Z)<|z8 (zl (c := .own _ _) jk Z ⟨_, .head⟩ Z)<|z8 (qo j6 Z)<|zVzMi Z<|z2<|zi<|y7 (γ := Nat) [2, 3, 6, 32] (fun k => [(33, .int .i64 k)]) (fun k => wO f i23 i17 i19 i21 jo jt [] (begS (List.replicate f.vars.length 0) (List.replicate f.vars.length false) (fillM f.vars.length k) [])) (fun k => k ≤ f.vars.length) (fun k => f.vars.length - k) 0 zR1 ⟨_, (.refl _), by rw [fillM_0]; rfl⟩ (qt _) ?_
  rintro k hk
  refine zSr<|zVGvlss Z Z<|z2<|zc<|zo Z (fun ck=>?_) (fun ck=>?_)
  ·have hk2 : k < f.vars.length := by simp at ck; omega
   refine zf<|zc<|zi<|zSr<|zVzMi Z<|zVzAi Z<|z2<|zRg<|zVzMp Z<|zVGvnilCheckO Z<|z8 (ze j8 Z jd (by decide) Z Z)<|z8 (zl (c := .own _ _) jk Z ⟨_, .head⟩ Z)<|zVzMi Z<|z8 (yg (j := k) j6 j7 Z Z Z ⟨_, .t3⟩ ((cI_len _).trans (fillM_len hk)) hk2)<|yt (j := k) j7 Z Z .t3 (by rw [fillM_len hk]; exact hk2)<|z2<|zRg<|zVzAd Z Z<|zVzMi Z<|z2 ?_
   exact ⟨k + 1, zR4, zR1, ⟨_, (.refl _), by rw [← fillM_set hk2]⟩, hk2, by omega⟩
  ·obtain rfl : k = f.vars.length := by simp at ck; omega
   rw [fillM_n]
   refine y6<|zc<|zSr<|zVzFF Y5 Z sizeOf34 Z Z<|zVzLf isAgg34 Z<|zVGvlenM Yq Z<|zVzMi Z<|z2<|zi<|y7 (γ := Nat) [2, 3, 6, 44, 45] (fun k => [(46, .int .i64 k)]) (fun k => wO f i23 i17 i19 i21 jo jt [] (begS (fillW (begI f) 0 f.vars.length (i.args.take k)) (fillW (begB f) false f.vars.length (i.args.take k)) (fillW (begA f) (-1) f.vars.length (i.args.take k)) [])) (fun k => k ≤ i.args.length) (fun k => i.args.length - k) 0 zR1 ⟨_, (.refl _), by rw [fill_0, fill_0, fill_0]⟩ (qt _) ?_
   rintro k hk
   refine zSr<|zVGvlss Z Z<|z2<|zc<|zo Z (fun ck=>?_) (fun ck=>?_)
   ·have hk2 : k < i.args.length := by simp at ck; omega
    obtain ⟨a, hea⟩ : ∃ a, i.args[k] = a := ⟨_, rfl⟩
    have hag : i.args[k]? = some a := by rw [qq hk2, hea]
    obtain ⟨v, hev⟩ : ∃ v, f.vars[k]? = some v := ⟨_, qq (by omega)⟩
    have hty : tyL f k = v.ty := by unfold tyL; rw [hev]; rfl
    have sI := fill_set (g := begI f) (d := 0) hk2 ha
    have sB := fill_set (g := begB f) (d := false) hk2 ha
    have sA := fill_set (g := begA f) (d := -1) hk2 ha
    have kI := fill_skip (g := begI f) (d := 0) hk2 ha
    have kB := fill_skip (g := begB f) (d := false) hk2 ha
    have kA := fill_skip (g := begA f) (d := -1) hk2 ha
    rw [hea] at sI sB sA kI kB kA
    refine zf<|zc<|zi<|zSr<|zVzMi Z<|z8 (zIM k Yq sizeOf66 Z Z Z hag)<|zVGvloadWF isAgg66 sizeOf66 Z Z<|zt (cs := [.int .i64 0, .bool false, .int .i64 0]) zeroValue66 Z Z<|fun i9 => zVzAi Z<|zn sizeOf66 Z Z Z Z Z Z .head Z<|zd (yf (t := 9) Z .head)<|z2<|zSr<|zVzFF jh Z Ya Z Z<|zVzLf Yk Z<|zVzMi Z<|z8 (zIM k Z4 Ye Z Z Z hev)<|zVzFF Zl Z X5 Z Z<|zVzLi isAgg77 Z<|z2<|zi<|zSr<|zVGveqlI Z Z<|zVzAb Z<|z2<|zo Z (fun c0=>?_) (fun c0=>?_)
    ·have c0 : tyL f k = 0 := hty.trans (by simpa using c0)
     rw [show begI f k a = a.int by unfold begI; rw [if_pos c0]] at sI
     have eB := kB (by unfold begB; rw [if_pos c0])
     have eA := kA (by unfold begA; rw [if_pos c0])
     refine zr (fun j => Nat.beq j 8) (by kernel_rfl) Z (zm (.r (.rest _)))<|zTk 0 Z (zMp Z)<|zTk 1 Z (y4 Z)<|zTk 2 Z (ze j8 Z Zc (by decide) Z Z)<|zTk 3 Z (zl (c := .own _ _) Zm Z ⟨_, .head⟩ Z)<|zTk 4 Z (zMi Z)<|zTk 5 Z (zFF X2 Z Z9 Z Z)<|zTk 6 Z (zLi Yd Z)<|zOn 7 Z<|z8 (yg (j := k) jp Z9 Z Z Z ⟨_, .head⟩ ((cI_len _).trans (fill_take ha k)) (by omega))<|z2<|yb<|y8 (i := 8) Z (by kernel_rfl) (by kernel_rfl)<|yt (j := k) Z9 Z Z .t1 (by rw [fill_take ha]; omega)<|z2<|ye (by kernel_rfl)<|zRg<|zVzAd Z Z<|zVzMi Z<|z2 ?_
     exact ⟨k + 1, zR5, zR1, ⟨_, (.refl _), by rw [← sI, ← eB, ← eA]⟩, hk2, by omega⟩
    ·have c0 : ¬ tyL f k = 0 := fun h => c0 (by rw [hty] at h; simpa using h)
     have eI := kI (by unfold begI; rw [if_neg c0])
     refine zSr<|zVGveqlI Z Z<|zVzAb Z<|z2<|zo Z (fun c1=>?_) (fun c1=>?_)
     ·have c1 : tyL f k = 1 := hty.trans (by simpa using c1)
      rw [show begB f k a = a.b by unfold begB; rw [if_neg c0, if_pos c1]] at sB
      have eA := kA (by unfold begA; rw [if_neg c0, if_pos c1])
      refine zr (fun j => Nat.beq j 8) (by kernel_rfl) Z (zm (.r (.rest _)))<|zTk 0 Z (zMp Z)<|zTk 1 Z (y4 Z)<|zTk 2 Z (ze j8 Z Yp (by decide) Z Z)<|zTk 3 Z (zl (c := .own _ _) X1 Z ⟨_, .head⟩ Z)<|zTk 4 Z (zMi Z)<|zTk 5 Z (zFF X2 Z Z5 Z Z)<|zTk 6 Z (q9 (c := .bool _) Yy Z)<|zOn 7 Z<|z8 (yg (j := k) jm Z5 Z Z Z ⟨_, .t1⟩ ((cB_len _).trans (fill_take ha k)) (by omega))<|z2<|yb<|y8 (i := 8) Z (by kernel_rfl) (by kernel_rfl)<|q8 (j := k) Z5 Z Z .t2 (by rw [fill_take ha]; omega)<|z2<|ye (by kernel_rfl)<|zRg<|zVzAd Z Z<|zVzMi Z<|z2 ?_
      exact ⟨k + 1, zR5, zR1, ⟨_, (.refl _), by rw [← sB, ← eI, ← eA]⟩, hk2, by omega⟩
     ·have c1 : ¬ tyL f k = 1 := fun h => c1 (by rw [hty] at h; simpa using h)
      rw [show begA f k a = a.arr by unfold begA; rw [if_neg c0, if_neg c1]] at sA
      have eB := kB (by unfold begB; rw [if_neg c0, if_neg c1])
      refine zr (fun j => Nat.beq j 8) (by kernel_rfl) Z (zm (.r (.rest _)))<|zTk 0 Z (zMp Z)<|zTk 1 Z (y4 Z)<|zTk 2 Z (ze j8 Z jd (by decide) Z Z)<|zTk 3 Z (zl (c := .own _ _) jk Z ⟨_, .head⟩ Z)<|zTk 4 Z (zMi Z)<|zTk 5 Z (zFF X2 Z j7 Z Z)<|zTk 6 Z (zLi j9 Z)<|zOn 7 Z<|z8 (yg (j := k) j6 j7 Z Z Z ⟨_, .t2⟩ ((cI_len _).trans (fill_take ha k)) (by omega))<|z2<|yb<|y8 (i := 8) Z (by kernel_rfl) (by kernel_rfl)<|yt (j := k) j7 Z Z .t3 (by rw [fill_take ha]; omega)<|z2<|ye (by kernel_rfl)<|zRg<|zVzAd Z Z<|zVzMi Z<|z2 ?_
      exact ⟨k + 1, zR5, zR1, ⟨_, (.refl _), by rw [← sA, ← eI, ← eB]⟩, hk2, by omega⟩
   ·obtain rfl : k = i.args.length := by simp at ck; omega
    rw [qv]
    refine y6<|zc<|zSr<|zVzFF Y5 Z Y2 Z Z<|zVzLf Ym Z<|zVGvlenM Za Z<|zVzMi Z<|z2<|zi<|y7 (γ := Nat × Nat × List Nat) [6, 87, 88] (fun g => [(89, .int .i64 g.1)]) (fun g => wO f i23 i17 i19 i21 g.2.1 jt g.2.2 (begS (fillW (begI f) 0 f.vars.length i.args) (fillW (begB f) false f.vars.length i.args) (fillW (begA f) (-1) f.vars.length i.args) (i.arrays.take g.1))) (fun g => g.1 ≤ i.arrays.length ∧ g.2.2.length = (i.arrays.take g.1).length) (fun g => i.arrays.length - g.1) (0, jo, []) zR1 zLe (⟨qt _, Z⟩) ?_
    rintro ⟨k, jo, ids⟩ ⟨hk, hids⟩
    try dsimp only at *
    refine zSr<|zVGvlss Z Z<|z2<|zc<|zo Z (fun ck=>?_) (fun ck=>?_)
    ·have hk2 : k < i.arrays.length := by simp at ck; omega
     obtain ⟨r, her⟩ : ∃ r, i.arrays[k] = r := ⟨_, rfl⟩
     have hrg : i.arrays[k]? = some r := by rw [qq hk2, her]
     have hrl := hr r (w1 hrg)
     have hts : i.arrays.take (k + 1) = i.arrays.take k ++ [r] := by rw [qr hk2, her]
     have htl : (i.arrays.take k).length = k := by rw [w3]; omega
     refine zf<|zc<|zi<|zSr<|z8 (zIM k Za Zc Z Z Z hrg)<|zVzLf Zm Z<|z8 (zAf Z)<|z2<|zr (fun j => Nat.beq j 12) (by kernel_rfl) Z (zm (.r (.rest _)))<|zTk 0 Z (zMp Z)<|zTk 1 Z (zMp Z)<|zTk 2 Z (y4 Z)<|zTk 3 Z (ze j8 Z Y2 (by decide) Z Z)<|zTk 4 Z (zl (c := .own _ _) Ym Z ⟨_, .head⟩ Z)<|zTk 6 Z (zMf Z)<|zOn 5 Z<|yh (k := 1) jp Yn<|fun i98 => z2<|zOn 7 Z<|ym (k := 1) jp Yn Z Z Z Z Z (fun _ => .head) Z (by decide) (by rw [flat_I]; exact cI_cell r) (by show (_ + _) * 8 ≤ _; simp; omega) (by simp; omega)<|fun i100 => z2<|zOn 8 Z<|zx (rows := [[_]]) ps35_1 Z Z Z Z Z<|z2<|zOn 9 Z<|ym (k := 1) Za type42 Z Z Z Z Z (fun _ => .t4) (by show _ = (i.arrays.take k).length * 1; rw [owns_len hids]; omega) (by decide) Z (by show ((i.arrays.take k).length + 1) * 24 ≤ _; omega) (by show (i.arrays.take k).length + 1 ≤ _; omega)<|fun i102 => z2<|yo (i := 10) Z (by kernel_rfl) (by kernel_rfl) (by kernel_rfl) (by kernel_rfl) (y4 Z)<|zTk 11 Z (ze j8 Z Y2 (by decide) Z Z)<|yb<|y8 (i := 12) Z (by kernel_rfl) (by kernel_rfl)<|yp (l := [_]) (new := [_, _, _, _, _, _, _, _, _, _, _, _, _, _, _, _, _, _, _, _, _, _, _]) Y2 Z Z Z Z Z Z .head Z Z<|z2<|ye (by kernel_rfl)<|zw (GStep.bagIn (X' := bagA (ids ++ [i100]) (i.arrays.take k ++ [r])) .t1 ((by rw [List.nil_append, flat_I]; exact bag_push i100 r hids)) .t6)<|zRg<|zVzAd Z Z<|zVzMi Z ?_
     refine z2 ?_
     exact ⟨(k + 1, i102, ids ++ [i100]), zR3, zR1, ⟨_, (.refl _), by dsimp only; rw [hts]; exact wO_push f i23 i17 i19 i21 i102 jt (s := begS (fillW (begI f) 0 f.vars.length i.args) (fillW (begB f) false f.vars.length i.args) (fillW (begA f) (-1) f.vars.length i.args) (i.arrays.take k)) hids i100 r _ (by simp)⟩, ⟨hk2, by dsimp only; rw [hts]; simp [hids]⟩, by dsimp only; omega⟩
    ·obtain rfl : k = i.arrays.length := by simp at ck; omega
     rw [qv] at hids
     rw [qv]
     refine y6<|zSr<|zVzMp Z<|z8 (zAp Z)<|z2<|zj<|zk (x := .po _ _) Z ?_
     exact ⟨i23, i17, i19, i21, jo, jt, ids, hids, rfl, rfl⟩
end Go.Proofs.YtiojekbkamegdaaGreatDoor
namespace Go.Proofs.YtiojekbkamegdaaGreatDoor
open Go.Proofs.Tryz
open Go.Proofs Go.Lib Go.Shelf Go.RowKit
variable {E : World}
set_option maxRecDepth 20000
set_option maxHeartbeats 4000000 in
theorem wrun_spec (f : PFunc) (i : PIn) (n : Nat) (hR : RunP f) (hv : f.vars.length ≤ 1000) (hs : small f) (hi : GInv f (begG f i)) (ha : i.args.length ≤ f.vars.length) (hn : n ≤ 1000000000) : AFun prog E 19 [.agg (encF f), .agg (encIn i), .int .i64 n] (.agg (encOut (runG f n (begG f i)))) := by
 have hls := hi.ls
 have hlr := hi.lr
 refine zp func19 Z (by decide) Z<|zSr<|yc (cs := _) Z Z Z<|yc (cs := _) Z Z Z<|zt (cs := [.int .i64 0, .int .i64 0, .int .i64 0, .raw (.slice none 0 0), .int .i64 0, .int .i64 0, .int .i64 0, .int .i64 0, .int .i64 0, .int .i64 0, .int .i64 0, .int .i64 0, .int .i64 0]) jz Z Z<|fun i6 => z2<|zSr<|zVGvloadWF jq jj Z Z<|zVGvloadWF X4 Yv Z Z<|zy Z (zm (.r (.rest _))) (wbegin_spec f i hv ha hls hlr) ?_
 rintro r11 O11 ⟨iw, ja, jb, jc, jo, jt, ids, hids, rfl, rfl⟩
 refine z8 (zAp Z)<|z2<|zc<|zSr<|zVzAi Z<|z2<|zi<|y7 (γ := Nat × GS × Nat × Nat × List Nat) [2, 6, 7] (fun g => [(8, .int .i64 g.1)]) (fun g => wO f iw ja jb jc g.2.2.1 g.2.2.2.1 g.2.2.2.2 g.2.1 ++ [(i6, .cells 45 [.int .i64 0, .int .i64 0, .int .i64 0, .raw (.slice none 0 0), .int .i64 0, .int .i64 0, .int .i64 0, .int .i64 0, .int .i64 0, .int .i64 0, .int .i64 0, .int .i64 0, .int .i64 0])]) (fun g => g.1 ≤ n ∧ runG f (n - g.1) g.2.1 = runG f n (begG f i) ∧ GInv f g.2.1 ∧ g.2.1.st ≤ g.1 ∧ (∀ q, g.2.1.ck q ≤ g.1) ∧ g.2.2.2.2.length = g.2.1.arrays.length) (fun g => n - g.1) (0, begG f i, jo, jt, ids) zR1 zLe (⟨qt _, Z, hi, qt _, fun _ => qt _, hids⟩) ?_
 rintro ⟨k, s, jo, jt, ids⟩ ⟨hk, hrun, hg, hst, hck, hids⟩
 try dsimp only at *
 refine zc<|zSr<|zVzMi Z<|zVzMi Z<|zVGvlss Z Z<|zVzMb Z<|zq (s := 15) Z (fun ck=>?_) (fun ck=>?_)
 ·have hk2 : k < n := by simp at ck; omega
  refine z7 Z Z ck<|zVzMp Z<|z7 Z Z ck<|zVGvnilCheckO Z<|z7 Z Z ck<|z8 (ze j8 Z Z5 (by decide) Z Z)<|z7 Z Z ck<|z8 (zl (c := .bool _) Yy Z ⟨_, .head⟩ Z)<|z7 Z Z ck<|zVGvnot Z<|zVzPt Z ck Z<|z2<|zu Z (fun ce=>?_) (fun ce=>?_)
  ·have he : s.ended = false := by simpa using ce
   rw [show n - k = (n - (k + 1)) + 1 by omega, runG, if_neg (by rw [he]; decide)] at hrun
   refine zf<|zc<|zi<|zRg<|zVzMp Z<|zy Z (zm (.l (.l (.l (.l (.l (.l (.l (.r (.rest _)))))))))) (wstep_spec f iw ja jb jc jo jt ids s hids hg hR hv hs (by omega) (fun q => by have := hck q; omega)) ?_
   rintro r25 O25 ⟨jo', jt', ids', hl', rfl, rfl⟩
   refine z2<|zRg<|zVzMi Z<|zVzAd Z Z<|zVzAi Z<|z2 ?_
   exact ⟨(k + 1, stepG f s, jo', jt', ids'), zR3, zR1, zLe, ⟨hk2, hrun, hg.step hR, by rw [step_st]; dsimp only; omega, fun q => Nat.le_trans (step_ck f s q) (by have := hck q; dsimp only; omega), hl'⟩, by dsimp only; omega⟩
  ·have he : s.ended = true := by simpa using ce
   have hend : runG f n (begG f i) = s := by rw [← hrun]; exact run_ended he _
   rw [hend]
   refine y6<|zc<|zw (GStep.knowIC (off := 12) .t5 .head Z Z)<|zRg<|zVzMp Z<|zVGvnilCheckO Z<|z8 (ze j8 Z jn (by decide) Z Z)<|z8 (Gv.loadAC (l := [_, _, _, _, _, _, _, _, _, _, _, _, _]) Yr jn Z ⟨_, .head⟩ Z Z)<|zn jn Z Z Z Z Z Z .t6 Z<|z2<|zj<|afin.c1 Z ⟨_, .t6⟩ Yr jn Z ?_
   rfl
 ·have hk2 : k = n := by simp at ck; omega
  have hend : runG f n (begG f i) = s := by rw [← hrun, hk2, Nat.sub_self]; rfl
  rw [hend]
  refine z6 Z Z ck<|z6 Z Z ck<|z6 Z Z ck<|z6 Z Z ck<|z6 Z Z ck<|zVzPf Z ck Z<|z2<|yj Z Z<|y6<|zc<|zw (GStep.knowIC (off := 12) .t5 .head Z Z)<|zRg<|zVzMp Z<|zVGvnilCheckO Z<|z8 (ze j8 Z jn (by decide) Z Z)<|z8 (Gv.loadAC (l := [_, _, _, _, _, _, _, _, _, _, _, _, _]) Yr jn Z ⟨_, .head⟩ Z Z)<|zn jn Z Z Z Z Z Z .t6 Z<|z2<|zj<|afin.c1 Z ⟨_, .t6⟩ Yr jn Z ?_
  rfl
theorem rightG_spec (f : PFunc) (i : PIn) (hp : f.params.length ≤ f.vars.length) (hl : i.args.length ≤ 281474976710656) (hl2 : i.arrays.length ≤ 281474976710656) : AFun prog E 17 [.agg (encF f), .agg (encIn i)] (.int .i64 (rightG f i)) := by
 refine zp func17 Z (by decide) Z<|zSr<|yc (cs := _) Z Z Z<|yc (cs := _) Z Z Z<|zVzAi Z<|z2<|zc<|zSr<|zVzFF Y5 Z sizeOf34 Z Z<|zVzLf isAgg34 Z<|zVGvlenM Yq Z<|zVzFF jh Z jd Z Z<|zVzLf jk Z<|zVGvlenM j6 Z<|zVGvneqI Z Z<|z2<|zu Z (fun c1=>?_) (fun c1=>?_)
 ·have c1 : ¬ i.args.length = f.params.length := by simp at c1; omega
  refine zSr<|zVzAi Z<|z2<|zj<|zk (x := .int _ _) Z ?_
  unfold rightG; rw [if_pos c1]
 ·have c1 : i.args.length = f.params.length := by simp at c1; omega
  refine zf<|zc<|zSr<|zVzFF Y5 Z sizeOf34 Z Z<|zVzLf isAgg34 Z<|zVGvlenM Yq Z<|zVzMi Z<|z2<|zi<|y7 (γ := Nat) [2, 3, 17, 18] (fun k => [(19, .int .i64 k)]) (fun k => []) (fun k => k ≤ i.args.length ∧ ∀ (j : Nat) a, j < k → i.args[j]? = some a → badArg f i (a, j) = false) (fun k => i.args.length - k) 0 zR1 zLe (⟨qt _, fun j a h => absurd h (Nat.not_lt_zero _)⟩) ?_
  rintro k ⟨hk, hok⟩
  refine zSr<|zVGvlss Z Z<|z2<|zc<|zo Z (fun ck=>?_) (fun ck=>?_)
  ·have hk2 : k < i.args.length := by simp at ck; omega
   obtain ⟨a, hea⟩ : ∃ a, i.args[k] = a := ⟨_, rfl⟩
   have hag : i.args[k]? = some a := by rw [qq hk2, hea]
   obtain ⟨v, hev⟩ : ∃ v, f.vars[k]? = some v := ⟨_, qq (by omega)⟩
   have hty : tyL f k = v.ty := by unfold tyL; rw [hev]; rfl
   refine zf<|zc<|zi<|zSr<|zVzMi Z<|z8 (zIM k Yq sizeOf66 Z Z Z hag)<|zVGvloadWF isAgg66 sizeOf66 Z Z<|zt (cs := [.int .i64 0, .bool false, .int .i64 0]) zeroValue66 Z Z<|fun i6 => zVzAi Z<|zn sizeOf66 Z Z Z Z Z Z .head Z<|zd (yf (t := 6) Z .head)<|z2<|zc<|yn (γ := Bool) [2, 3, 17, 18, 19] (fun z => [(43, .bool z)]) (fun z => []) (fun z => z = badArg f i (a, k)) ?_ (fun _ _ h => h) ?_
   ·refine zRg<|zVzFF jh Z Ya Z Z<|zVzLf Yk Z<|zVzMi Z<|z8 (zIM k Z4 Ye Z Z Z hev)<|zVzFF Zl Z X5 Z Z<|zVzLi isAgg77 Z<|zVGveqlI Z Z<|zVzMb Z<|zq (s := 31) Z (fun c2=>?_) (fun c2=>?_)
    ·have d2 : tyL f k = 2 := hty.trans (by simpa using c2)
     refine z7 Z Z c2<|zVzFF X2 Z j7 Z Z<|z7 Z Z c2<|zVzLi j9 Z<|z7 Z Z c2<|zVGvlss Z Z<|z7 Z Z c2<|zVzMb Z<|zq (s := 35) Z (fun c3=>?_) (fun c3=>?_)
     ·have d3 : a.arr < -1 := by simpa using c3
      refine z6 Z Z c3<|z6 Z Z c3<|z6 Z Z c3<|z6 Z Z c3<|z6 Z Z c3<|z6 Z Z c3<|z7 Z Z c2<|zVzPt Z c3 Z<|zVzPt Z c2 Z<|z2 ?_
      exact ⟨_, zR5, zR1, zLe, by unfold badArg; simp [d2, d3]⟩
     ·have d3 : ¬ a.arr < -1 := by simpa using c3
      refine z7 Z Z c3<|zVzFF X2 Z j7 Z Z<|z7 Z Z c3<|zVzLi j9 Z<|z7 Z Z c3<|zVzFF Y5 Z Y2 Z Z<|z7 Z Z c3<|zVzLf Ym Z<|z7 Z Z c3<|zVGvlenM Za Z<|z7 Z Z c3<|z8 (qd Z Z)<|z7 Z Z c2<|zVzPf Z c3 Z<|zVzPt Z c2 Z<|z2 ?_
      exact ⟨_, zR5, zR1, zLe, by unfold badArg; simp [d2, d3]⟩
    ·have d2 : ¬ tyL f k = 2 := fun h => by rw [hty] at h; simp [h] at c2
     refine z6 Z Z c2<|z6 Z Z c2<|z6 Z Z c2<|z6 Z Z c2<|zh Z Z<|zh Z Z<|zh Z Z<|zh Z Z<|zh Z Z<|zh Z Z<|z6 Z Z c2<|zVzPf Z c2 Z<|z2 ?_
     exact ⟨_, zR5, zR1, zLe, by unfold badArg; simp [d2]⟩
   ·rintro z hz
    refine zu Z (fun cz=>?_) (fun cz=>?_)
    ·have hb : i.args.zipIdx.any (badArg f i) = true := List.any_eq_true.2 ⟨(a, k), w1 (i := k) (by rw [List.getElem?_zipIdx, hag]; simp), hz.symm.trans cz⟩
     refine zSr<|zVzAi Z<|z2<|zj<|zk (x := .int _ _) Z ?_
     unfold rightG; rw [if_neg (fun h => h c1), if_pos hb]
    ·refine zf<|zRg<|zVzAd Z Z<|zVzMi Z<|z2 ?_
     exact ⟨k + 1, zR4, zR1, zLe, ⟨hk2, fun j b hj hb => by rcases (by omega : j < k ∨ j = k) with h | rfl; exact hok j b h hb; rw [hag] at hb; cases hb; exact hz.symm.trans cz⟩, by omega⟩
  ·obtain rfl : k = i.args.length := by simp at ck; omega
   have hb : ¬ i.args.zipIdx.any (badArg f i) = true := fun h => by
    obtain ⟨⟨a, j⟩, hm, hh⟩ := List.any_eq_true.1 h
    obtain ⟨hj, e⟩ := List.mk_mem_zipIdx_iff_getElem?.1 hm |> fun h => (⟨(List.getElem?_eq_some_iff.1 h).1, h⟩ : j < i.args.length ∧ _)
    rw [hok j a hj e] at hh; cases hh
   refine y6<|zc<|zSr<|zVzFF Y5 Z Y2 Z Z<|zVzLf Ym Z<|zVGvlenM Za Z<|zVGvgtr Z Z<|z2<|zo Z (fun c32=>?_) (fun c32=>?_)
   ·have c32 : 32 < i.arrays.length := by omega
    refine zSr<|zVzAi Z<|z2<|zj<|zk (x := .int _ _) Z ?_
    unfold rightG; rw [if_neg (fun h => h c1), if_neg hb, if_pos c32]
   ·have c32 : ¬ 32 < i.arrays.length := by omega
    refine zf<|zc<|zSr<|zVzFF Y5 Z Y2 Z Z<|zVzLf Ym Z<|zVGvlenM Za Z<|zVzMi Z<|z2<|zi<|y7 (γ := Nat) [50, 51] (fun k => [(52, .int .i64 k)]) (fun k => []) (fun k => k ≤ i.arrays.length ∧ ∀ r ∈ i.arrays.take k, decide (64 < r.length) = false) (fun k => i.arrays.length - k) 0 zR1 zLe (⟨qt _, fun r h => by simp at h⟩) ?_
    rintro k ⟨hk, hok⟩
    refine zSr<|zVGvlss Z Z<|z2<|zc<|zo Z (fun ck=>?_) (fun ck=>?_)
    ·have hk2 : k < i.arrays.length := by simp at ck; omega
     obtain ⟨r, her⟩ : ∃ r, i.arrays[k] = r := ⟨_, rfl⟩
     have hrg : i.arrays[k]? = some r := by rw [qq hk2, her]
     refine zf<|zc<|zi<|zSr<|z8 (zIM k Za Zc Z Z Z hrg)<|zVzLf Zm Z<|z8 (zAf Z)<|z2<|zSr<|zVzMf Z<|zVGvlenM jp Z<|zVGvgtr Z Z<|z2<|zo Z (fun cr=>?_) (fun cr=>?_)
     ·have cr : 64 < r.length := by omega
      have hb4 : i.arrays.any (fun r => decide (64 < r.length)) = true := List.any_eq_true.2 ⟨r, w1 hrg, w4 cr⟩
      refine zSr<|zVzAi Z<|z2<|zj<|zk (x := .int _ _) Z ?_
      unfold rightG; rw [if_neg (fun h => h c1), if_neg hb, if_neg c32, if_pos hb4]
     ·have cr : ¬ 64 < r.length := by omega
      refine zf<|zRg<|zVzAd Z Z<|zVzMi Z<|z2 ?_
      exact ⟨k + 1, zR2, zR1, zLe, ⟨hk2, fun q hq => by rw [qr hk2] at hq; rcases List.mem_append.1 hq with hq | hq; exact hok q hq; rw [List.mem_singleton.1 hq, her]; exact w5 cr⟩, by omega⟩
    ·obtain rfl : k = i.arrays.length := by simp at ck; omega
     rw [qv] at hok
     have hb4 : ¬ i.arrays.any (fun r => decide (64 < r.length)) = true := fun h => by
      obtain ⟨r, hm, hh⟩ := List.any_eq_true.1 h
      rw [hok r hm] at hh; cases hh
     refine y6<|zSr<|zVzAi Z<|z2<|zj<|zk (x := .int _ _) Z ?_
     unfold rightG; rw [if_neg (fun h => h c1), if_neg hb, if_neg c32, if_neg hb4]
theorem alike_spec (a b : GS) (hl : a.trace.length ≤ 281474976710656) : AFun prog E 20 [.agg (encOut a), .agg (encOut b)] (.bool (alikeG a b)) := by
 refine zp func20 Z (by decide) Z<|zSr<|yc (cs := _) Z Z Z<|yc (cs := _) Z Z Z<|zVzAb Z<|z2<|zc<|zc<|yn (γ := Bool) [2, 3] (fun z => [(33, .bool z)]) (fun z => []) (fun z => z = !decide (a.en = b.en ∧ a.val = b.val ∧ a.tr = b.tr ∧ a.trace.length = b.trace.length)) ?_ (fun _ _ h => h) ?_
 ·refine zRg<|zVzFF ju Z X7 Z Z<|zVzLi isAgg40 Z<|zVzFF ju Z X7 Z Z<|zVzLi isAgg40 Z<|zVGvneqI Z Z<|zVzMb Z<|zq (s := 11) Z (fun c1=>?_) (fun c1=>?_)
  ·have d1 : ¬ a.en = b.en := by simpa using c1
   refine z6 Z Z c1<|z6 Z Z c1<|z6 Z Z c1<|z6 Z Z c1<|z6 Z Z c1<|zVzPt Z c1 Z<|zVzMb Z<|z6 Z Z Z<|z6 Z Z Z<|z6 Z Z Z<|z6 Z Z Z<|z6 Z Z Z<|zVzPt Z Z Z<|zVzMb Z<|z6 Z Z Z<|z6 Z Z Z<|z6 Z Z Z<|z6 Z Z Z<|z6 Z Z Z<|z6 Z Z Z<|z6 Z Z Z<|zVzPt Z Z Z<|z2 ?_
   exact ⟨_, zR2, zR1, zLe, by simp [d1]⟩
  ·have d1 : a.en = b.en := by simpa using c1
   refine z7 Z Z c1<|zVzFF ju Z Z9 Z Z<|z7 Z Z c1<|zVzLi Yd Z<|z7 Z Z c1<|zVzFF ju Z Z9 Z Z<|z7 Z Z c1<|zVzLi Yd Z<|z7 Z Z c1<|zVGvneqI Z Z<|zVzPf Z c1 Z<|zVzMb Z<|zq (s := 18) Z (fun c2=>?_) (fun c2=>?_)
   ·have d2 : ¬ a.val = b.val := by simpa using c2
    refine z6 Z Z c2<|z6 Z Z c2<|z6 Z Z c2<|z6 Z Z c2<|z6 Z Z c2<|zVzPt Z c2 Z<|zVzMb Z<|z6 Z Z Z<|z6 Z Z Z<|z6 Z Z Z<|z6 Z Z Z<|z6 Z Z Z<|z6 Z Z Z<|z6 Z Z Z<|zVzPt Z Z Z<|z2 ?_
    exact ⟨_, zR2, zR1, zLe, by simp [d2]⟩
   ·have d2 : a.val = b.val := by simpa using c2
    refine z7 Z Z c2<|zVzFF ju Z sizeOf41 Z Z<|z7 Z Z c2<|zVzLi isAgg41 Z<|z7 Z Z c2<|zVzFF ju Z sizeOf41 Z Z<|z7 Z Z c2<|zVzLi isAgg41 Z<|z7 Z Z c2<|zVGvneqI Z Z<|zVzPf Z c2 Z<|zVzMb Z<|zq (s := 25) Z (fun c3=>?_) (fun c3=>?_)
    ·have d3 : ¬ a.tr = b.tr := by simpa using c3
     refine z6 Z Z c3<|z6 Z Z c3<|z6 Z Z c3<|z6 Z Z c3<|z6 Z Z c3<|z6 Z Z c3<|z6 Z Z c3<|zVzPt Z c3 Z<|z2 ?_
     exact ⟨_, zR2, zR1, zLe, by simp [d3]⟩
    ·have d3 : a.tr = b.tr := by simpa using c3
     refine z7 Z Z c3<|zVzFF ju Z Zc Z Z<|z7 Z Z c3<|zVzLf Zm Z<|z7 Z Z c3<|zVGvlenM jp Z<|z7 Z Z c3<|zVzFF ju Z Zc Z Z<|z7 Z Z c3<|zVzLf Zm Z<|z7 Z Z c3<|zVGvlenM jp Z<|z7 Z Z c3<|zVGvneqI Z Z<|zVzPf Z c3 Z<|z2 ?_
     exact ⟨_, zR2, zR1, zLe, by simp [d1, d2, d3]; omega⟩
 ·rintro z hz
  refine zu Z (fun cz=>?_) (fun cz=>?_)
  ·have cz : ¬ (a.en = b.en ∧ a.val = b.val ∧ a.tr = b.tr ∧ a.trace.length = b.trace.length) := by intro h; rw [hz, w4 h] at cz; cases cz
   refine zSr<|zVzAb Z<|z2<|zj<|zk (x := .bool _) Z ?_
   unfold alikeG; rw [w5]; rintro ⟨h1, h2, h3, h4⟩; exact cz ⟨h1, h2, h3, by rw [h4]⟩
  ·have cz : a.en = b.en ∧ a.val = b.val ∧ a.tr = b.tr ∧ a.trace.length = b.trace.length := Classical.byContradiction fun h => by rw [hz, w5 h] at cz; cases cz
   refine zf<|zc<|zSr<|zVzFF ju Z Zc Z Z<|zVzLf Zm Z<|zVGvlenM jp Z<|zVzMi Z<|z2<|zi<|y7 (γ := Nat) [2, 3, 36] (fun k => [(37, .int .i64 k)]) (fun k => []) (fun k => k ≤ a.trace.length ∧ a.trace.take k = b.trace.take k) (fun k => a.trace.length - k) 0 zR1 zLe (⟨qt _, by simp⟩) ?_
   rintro k ⟨hk, hok⟩
   refine zSr<|zVGvlss Z Z<|z2<|zc<|zo Z (fun ck=>?_) (fun ck=>?_)
   ·have hk2 : k < a.trace.length := by simp at ck; omega
    have hk3 : k < b.trace.length := by omega
    refine zf<|zc<|zi<|zSr<|zVzMi Z<|zVzAi Z<|z2<|zc<|zr (fun j => false) (by kernel_rfl) Z (zm (.rest _))<|zTk 0 Z (zFF ju Z Zc Z Z)<|zTk 1 Z (zLf Zm Z)<|zTk 2 Z (zMi Z)<|zTk 3 Z (zIM k jp Z9 Z Z Z (qq hk2))<|zTk 4 Z (zLi Yd Z)<|zTk 5 Z (zFF ju Z Zc Z Z)<|zTk 6 Z (zLf Zm Z)<|zTk 7 Z (zMi Z)<|zTk 8 Z (zIM k jp Z9 Z Z Z (qq hk3))<|zTk 9 Z (zLi Yd Z)<|zTk 10 Z (Gv.neqI Z Z)<|zDn<|zu Z (fun cn=>?_) (fun cn=>?_)
    ·have cn : ¬ a.trace[k] = b.trace[k] := by simpa using cn
     refine zSr<|zVzAb Z<|z2<|zj<|zk (x := .bool _) Z ?_
     unfold alikeG; rw [w5]; rintro ⟨h1, h2, h3, h4⟩; exact cn (by simp only [h4])
    ·have cn : a.trace[k] = b.trace[k] := by simpa using cn
     refine zf<|zRg<|zVzAd Z Z<|zVzMi Z<|z2 ?_
     exact ⟨k + 1, zR3, zR1, zLe, ⟨hk2, by rw [qr hk2, qr hk3, hok, cn]⟩, by omega⟩
   ·obtain rfl : k = a.trace.length := by simp at ck; omega
    have ht : a.trace = b.trace := by rw [qv] at hok; rw [hok, cz.2.2.2, qv]
    refine y6<|zSr<|zVzAb Z<|z2<|zj<|zk (x := .bool _) Z ?_
    unfold alikeG; rw [w4]; exact ⟨cz.1, cz.2.1, cz.2.2.1, ht⟩
end Go.Proofs.YtiojekbkamegdaaGreatDoor
