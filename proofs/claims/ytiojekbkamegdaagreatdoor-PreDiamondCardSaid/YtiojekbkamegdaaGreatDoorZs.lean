/- The document's machine, of programs that do nothing but ask: it is the small one. No conditions but such programs. -/
import Derived.Test.YtiojekbkamegdaaGreatDoorZr
import Derived.Test.YtiojekbkamegdaaGreatDoorZp
import Derived.Test.YtiojekbkamegdaaGreatDoorZm
set_option linter.unusedVariables false
set_option linter.unusedSimpArgs false
set_option linter.unusedSectionVars false
namespace Go.Proofs.YtiojekbkamegdaaGreatDoor
open Go.Proofs.Tryz
open Go.Proofs Go.Lib Go.Shelf Go.RowKit
theorem pl100 : Places prog 100 #[(0, 3), (3, 1), (4, 1), (5, 1), (6, 1), (7, 1), (8, 1), (9, 13), (22, 1)] [.raw (.slice none 0 0), .raw (.slice none 0 0), .raw (.slice none 0 0), .raw (.slice none 0 0), .raw (.slice none 0 0), .raw (.slice none 0 0), .raw (.slice none 0 0), .int .i64 0, .int .i64 0, .int .i64 0, .int .i64 0, .int .i64 0, .raw (.slice none 0 0), .int .i64 0, .int .i64 0, .int .i64 0, .int .i64 0, .int .i64 0, .int .i64 0, .int .i64 0, .int .i64 0, .int .i64 0, .bool false] := ⟨_, _, underlying100, zeroValue100, fun w => by kernel_rfl, rfl⟩
variable {E : World}
set_option maxRecDepth 20000
def encArg (a : PArg) : List AV := [.int .i64 a.int, .bool a.b, .int .i64 a.arr]
def encArr (r : List Int) : List AV := [.fro 1 (r.map encI)]
def encIn (i : PIn) : List AV := [.fro 3 (i.args.map encArg), .fro 1 (i.arrays.map encArr)]
def encOut (s : GS) : List AV := [.int .i64 s.en, .int .i64 s.val, .int .i64 s.tr, .fro 1 (s.trace.map encI), .int .i64 s.st, .int .i64 (s.ck 0), .int .i64 (s.ck 1), .int .i64 (s.ck 2), .int .i64 (s.ck 3), .int .i64 (s.ck 4), .int .i64 (s.ck 5), .int .i64 (s.ck 6), .int .i64 (s.ck 7)]
def fillM (n k : Nat) : List Int := List.replicate k (-1) ++ List.replicate (n - k) 0
theorem fillM_0 (n : Nat) : fillM n 0 = List.replicate n 0 := by unfold fillM; simp
theorem fillM_n (n : Nat) : fillM n n = List.replicate n (-1) := by unfold fillM; simp
theorem fillM_len {n k : Nat} (h : k ≤ n) : (fillM n k).length = n := by unfold fillM; simp; omega
theorem fillM_set {n k : Nat} (h : k < n) : (fillM n k).set k (-1) = fillM n (k + 1) := by
 unfold fillM
 rw [List.set_append_right _ _ (by simp), List.length_replicate, Nat.sub_self, show n - k = (n - (k + 1)) + 1 by omega, List.replicate_succ, List.set_cons_zero, List.replicate_succ', qs]; rfl
section
variable {α β : Type} {g : Nat → α → β} {d : β} {n k : Nat} {l : List α}
theorem fill_0 : fillW g d n (l.take 0) = List.replicate n d := by unfold fillW; simp
theorem fill_len (h : l.length ≤ n) : (fillW g d n l).length = n := by unfold fillW; simp; omega
theorem fill_take (h : l.length ≤ n) (k : Nat) : (fillW g d n (l.take k)).length = n := fill_len (by rw [qz]; omega)
theorem fill_set (hk : k < l.length) (h : l.length ≤ n) : (fillW g d n (l.take k)).set k (g k l[k]) = fillW g d n (l.take (k + 1)) := by
 have hl : ((l.take k).zipIdx.map fun q => g q.2 q.1).length = k := by simp; omega
 unfold fillW
 rw [List.set_append_right _ _ (by rw [hl]; exact Nat.le_refl _), hl, Nat.sub_self, qz, qz, Nat.min_eq_left (by omega), Nat.min_eq_left (by omega), show n - k = (n - (k + 1)) + 1 by omega, List.replicate_succ, List.set_cons_zero, qr hk, List.zipIdx_append, List.map_append, qs]
 have : (l.take k).length = k := by rw [qz]; omega
 simp [this]
theorem fill_skip (hk : k < l.length) (h : l.length ≤ n) (e : g k l[k] = d) : fillW g d n (l.take k) = fillW g d n (l.take (k + 1)) := by
 rw [← fill_set hk h, e]
 refine (List.ext_getElem? fun j=>?_)
 by_cases hj : k = j
 ·subst hj
  rw [List.getElem?_set_self (by rw [fill_take h]; omega)]
  have hl : ((l.take k).zipIdx.map fun q => g q.2 q.1).length = k := by simp; omega
  unfold fillW
  rw [List.getElem?_append_right (by rw [hl]; exact Nat.le_refl _), hl, Nat.sub_self, qz, Nat.min_eq_left (by omega), List.getElem?_replicate, if_pos (by omega)]
 ·rw [List.getElem?_set_ne hj]
end
theorem flat_I (r : List Int) : (r.map encI).flatten = cI r := cI_flat r
abbrev begS (ints : List Int) (bools : List Bool) (arrs : List Int) (arrays : List (List Int)) : GS := ⟨ints, bools, arrs, arrays, 0, 0, 3, 0, 0, [], 0, fun _ => 0, false⟩
theorem wO_push (f : PFunc) (iw ja jb jc jo jt : Nat) {ids : List Nat} {s : GS} (h : ids.length = s.arrays.length) (i : Nat) (r : List Int) (m : Nat) (hm : m = r.length) : (iw, AObj.cells 100 (encF f ++ [.own ja f.vars.length, .own jb f.vars.length, .own jc f.vars.length, .own jo (s.arrays.length + 1), .int .i64 s.blk, .int .i64 s.pc, .int .i64 s.en, .int .i64 s.val, .int .i64 s.tr, .own jt s.trace.length, .int .i64 s.st, .int .i64 (s.ck 0), .int .i64 (s.ck 1), .int .i64 (s.ck 2), .int .i64 (s.ck 3), .int .i64 (s.ck 4), .int .i64 (s.ck 5), .int .i64 (s.ck 6), .int .i64 (s.ck 7), .bool s.ended])) :: (ja, .grow 1 2 (cI s.ints)) :: (jb, .grow 1 4 (cB s.bools)) :: (jc, .grow 1 3 (cI s.arrs)) :: (jo, .grow 1 42 (ownsA ids s.arrays ++ [.own i m])) :: (jt, .grow 1 2 (cI s.trace)) :: [(0, bag (bagA (ids ++ [i]) (s.arrays ++ [r])))] = wO f iw ja jb jc jo jt (ids ++ [i]) { s with arrays := s.arrays ++ [r] } := by
 subst hm
 unfold wO wR wCe
 rw [← owns_push i r h]
 simp only [qw, List.length_singleton]
set_option maxHeartbeats 16000000 in
theorem wbegin_spec (f : PFunc) (i : PIn) (hv : f.vars.length ≤ 1000) (ha : i.args.length ≤ f.vars.length) (hn : i.arrays.length ≤ 40) (hr : ∀ r ∈ i.arrays, r.length ≤ 100) : ACall prog E 51 [.agg (encF f), .agg (encIn i)] [] (fun y O => ∃ iw ja jb jc jo jt ids, ids.length = i.arrays.length ∧ y = .po iw 0 ∧ O = wO f iw ja jb jc jo jt ids (begG f i)) := by
 refine zo func51 rfl (by decide) rfl<|zSr<|y9 (cs := _) rfl rfl rfl<|y9 (cs := _) rfl rfl rfl<|z2 (zAr rfl)<|z6<|zSr<|z2 (zFF underlying26 rfl sizeOf22 rfl rfl)<|z2 (zLf isAgg22 rfl)<|z2 (y2 underlying22 rfl)<|z2 (zAi rfl)<|z6<|zd<|yp (γ := Nat × Nat × Nat × Nat) [2, 3] (fun g => [(6, .po g.1 0)]) (fun g => [(g.1, .cells 100 (encF f ++ [.own g.2.1 f.vars.length, .own g.2.2.1 f.vars.length, .own g.2.2.2 f.vars.length, .raw (.slice none 0 0), .int .i64 0, .int .i64 0, .int .i64 0, .int .i64 0, .int .i64 0, .raw (.slice none 0 0), .int .i64 0, .int .i64 0, .int .i64 0, .int .i64 0, .int .i64 0, .int .i64 0, .int .i64 0, .int .i64 0, .int .i64 0, .bool false])), (g.2.1, .grow 1 2 (cI (List.replicate f.vars.length 0))), (g.2.2.1, .grow 1 4 (cB (List.replicate f.vars.length false))), (g.2.2.2, .grow 1 3 (cI (List.replicate f.vars.length 0)))]) (fun g => True) ?_ (fun _ _ h => h) ?_
 ·refine zu (fun j => false) (by kernel_rfl) rfl (zm (.rest _))<|zTk 0 rfl (zp isAgg26 sizeOf26 rfl rfl)<|zTk 1 rfl (zMi rfl)<|zTk 3 rfl (zMi rfl)<|zTk 5 rfl (zMi rfl)<|ql (i := 2) (j := 4) (m := 6) rfl rfl rfl (by kernel_rfl) ?_ ?_ ?_
  ·refine qk (m := f.vars.length) underlying42 type2 rfl rfl rfl rfl rfl (by simp) (by simp) (by show (8 : Int) * _ ≤ _; omega) (by omega)<|fun i17 => z6<|yh (i := 4) (j := 6) rfl rfl (by kernel_rfl) ?_ ?_
   ·refine AOps.makeB (m := f.vars.length) underlying98 type4 rfl rfl rfl rfl rfl (by simp) (by simp) (by show (1 : Int) * _ ≤ _; omega) (by omega)<|fun i19 => z6<|zOn 6 rfl<|qk (m := f.vars.length) underlying23 type3 rfl rfl rfl rfl rfl (by simp) (by simp) (by show (8 : Int) * _ ≤ _; omega) (by omega)<|fun i21 => z6<|zTk 7 rfl (zx (cps := [(0, [_, _, _]), (1, [_]), (2, [_]), (3, [_])]) (rs := [_, _, _, _, _, _, .raw (.slice none 0 0), .int .i64 0, .int .i64 0, .int .i64 0, .int .i64 0, .int .i64 0, .raw (.slice none 0 0), .int .i64 0, .int .i64 0, .int .i64 0, .int .i64 0, .int .i64 0, .int .i64 0, .int .i64 0, .int .i64 0, .int .i64 0, .bool false]) pl100 rfl rfl rfl)<|zOn 8 rfl<|yi (cs := _) rfl rfl rfl rfl<|fun i23 => zc (za (zb .t1))<|zc (za (zb .t2))<|zc (za (zb .t3))<|zc (za (zb .t3))<|z6<|zTk 9 rfl (zAp rfl)<|zDn ?_
    exact ⟨(i23, i17, i19, i21), zR2, zR1, zLe, trivial⟩
   ·refine qk (m := f.vars.length) underlying23 type3 rfl rfl rfl rfl rfl (by simp) (by simp) (by show (8 : Int) * _ ≤ _; omega) (by omega)<|fun i21 => z6<|zOn 4 rfl<|AOps.makeB (m := f.vars.length) underlying98 type4 rfl rfl rfl rfl rfl (by simp) (by simp) (by show (1 : Int) * _ ≤ _; omega) (by omega)<|fun i19 => z6<|zTk 7 rfl (zx (cps := [(0, [_, _, _]), (1, [_]), (2, [_]), (3, [_])]) (rs := [_, _, _, _, _, _, .raw (.slice none 0 0), .int .i64 0, .int .i64 0, .int .i64 0, .int .i64 0, .int .i64 0, .raw (.slice none 0 0), .int .i64 0, .int .i64 0, .int .i64 0, .int .i64 0, .int .i64 0, .int .i64 0, .int .i64 0, .int .i64 0, .int .i64 0, .bool false]) pl100 rfl rfl rfl)<|zOn 8 rfl<|yi (cs := _) rfl rfl rfl rfl<|fun i23 => zc (za (zb .t2))<|zc (za (zb .t2))<|zc (za (zb .t3))<|zc (za (zb .t3))<|z6<|zTk 9 rfl (zAp rfl)<|zDn ?_
    exact ⟨(i23, i17, i19, i21), zR2, zR1, zLe, trivial⟩
  ·refine AOps.makeB (m := f.vars.length) underlying98 type4 rfl rfl rfl rfl rfl (by simp) (by simp) (by show (1 : Int) * _ ≤ _; omega) (by omega)<|fun i19 => z6<|yh (i := 2) (j := 6) rfl rfl (by kernel_rfl) ?_ ?_
   ·refine qk (m := f.vars.length) underlying42 type2 rfl rfl rfl rfl rfl (by simp) (by simp) (by show (8 : Int) * _ ≤ _; omega) (by omega)<|fun i17 => z6<|zOn 6 rfl<|qk (m := f.vars.length) underlying23 type3 rfl rfl rfl rfl rfl (by simp) (by simp) (by show (8 : Int) * _ ≤ _; omega) (by omega)<|fun i21 => z6<|zTk 7 rfl (zx (cps := [(0, [_, _, _]), (1, [_]), (2, [_]), (3, [_])]) (rs := [_, _, _, _, _, _, .raw (.slice none 0 0), .int .i64 0, .int .i64 0, .int .i64 0, .int .i64 0, .int .i64 0, .raw (.slice none 0 0), .int .i64 0, .int .i64 0, .int .i64 0, .int .i64 0, .int .i64 0, .int .i64 0, .int .i64 0, .int .i64 0, .int .i64 0, .bool false]) pl100 rfl rfl rfl)<|zOn 8 rfl<|yi (cs := _) rfl rfl rfl rfl<|fun i23 => zc (za (zb .t1))<|zc (za (zb .t3))<|zc (za (zb .t3))<|zc (za (zb .t3))<|z6<|zTk 9 rfl (zAp rfl)<|zDn ?_
    exact ⟨(i23, i17, i19, i21), zR2, zR1, zLe, trivial⟩
   ·refine qk (m := f.vars.length) underlying23 type3 rfl rfl rfl rfl rfl (by simp) (by simp) (by show (8 : Int) * _ ≤ _; omega) (by omega)<|fun i21 => z6<|zOn 2 rfl<|qk (m := f.vars.length) underlying42 type2 rfl rfl rfl rfl rfl (by simp) (by simp) (by show (8 : Int) * _ ≤ _; omega) (by omega)<|fun i17 => z6<|zTk 7 rfl (zx (cps := [(0, [_, _, _]), (1, [_]), (2, [_]), (3, [_])]) (rs := [_, _, _, _, _, _, .raw (.slice none 0 0), .int .i64 0, .int .i64 0, .int .i64 0, .int .i64 0, .int .i64 0, .raw (.slice none 0 0), .int .i64 0, .int .i64 0, .int .i64 0, .int .i64 0, .int .i64 0, .int .i64 0, .int .i64 0, .int .i64 0, .int .i64 0, .bool false]) pl100 rfl rfl rfl)<|zOn 8 rfl<|yi (cs := _) rfl rfl rfl rfl<|fun i23 => zc (za (zb .t2))<|zc (za (zb .t3))<|zc (za (zb .t3))<|zc (za (zb .t3))<|z6<|zTk 9 rfl (zAp rfl)<|zDn ?_
    exact ⟨(i23, i17, i19, i21), zR2, zR1, zLe, trivial⟩
  ·refine qk (m := f.vars.length) underlying23 type3 rfl rfl rfl rfl rfl (by simp) (by simp) (by show (8 : Int) * _ ≤ _; omega) (by omega)<|fun i21 => z6<|yh (i := 2) (j := 4) rfl rfl (by kernel_rfl) ?_ ?_
   ·refine qk (m := f.vars.length) underlying42 type2 rfl rfl rfl rfl rfl (by simp) (by simp) (by show (8 : Int) * _ ≤ _; omega) (by omega)<|fun i17 => z6<|zOn 4 rfl<|AOps.makeB (m := f.vars.length) underlying98 type4 rfl rfl rfl rfl rfl (by simp) (by simp) (by show (1 : Int) * _ ≤ _; omega) (by omega)<|fun i19 => z6<|zTk 7 rfl (zx (cps := [(0, [_, _, _]), (1, [_]), (2, [_]), (3, [_])]) (rs := [_, _, _, _, _, _, .raw (.slice none 0 0), .int .i64 0, .int .i64 0, .int .i64 0, .int .i64 0, .int .i64 0, .raw (.slice none 0 0), .int .i64 0, .int .i64 0, .int .i64 0, .int .i64 0, .int .i64 0, .int .i64 0, .int .i64 0, .int .i64 0, .int .i64 0, .bool false]) pl100 rfl rfl rfl)<|zOn 8 rfl<|yi (cs := _) rfl rfl rfl rfl<|fun i23 => zc (za (zb .t3))<|zc (za (zb .t2))<|zc (za (zb .t3))<|zc (za (zb .t3))<|z6<|zTk 9 rfl (zAp rfl)<|zDn ?_
    exact ⟨(i23, i17, i19, i21), zR2, zR1, zLe, trivial⟩
   ·refine AOps.makeB (m := f.vars.length) underlying98 type4 rfl rfl rfl rfl rfl (by simp) (by simp) (by show (1 : Int) * _ ≤ _; omega) (by omega)<|fun i19 => z6<|zOn 2 rfl<|qk (m := f.vars.length) underlying42 type2 rfl rfl rfl rfl rfl (by simp) (by simp) (by show (8 : Int) * _ ≤ _; omega) (by omega)<|fun i17 => z6<|zTk 7 rfl (zx (cps := [(0, [_, _, _]), (1, [_]), (2, [_]), (3, [_])]) (rs := [_, _, _, _, _, _, .raw (.slice none 0 0), .int .i64 0, .int .i64 0, .int .i64 0, .int .i64 0, .int .i64 0, .raw (.slice none 0 0), .int .i64 0, .int .i64 0, .int .i64 0, .int .i64 0, .int .i64 0, .int .i64 0, .int .i64 0, .int .i64 0, .int .i64 0, .bool false]) pl100 rfl rfl rfl)<|zOn 8 rfl<|yi (cs := _) rfl rfl rfl rfl<|fun i23 => z6<|zTk 9 rfl (zAp rfl)<|zDn ?_
    exact ⟨(i23, i17, i19, i21), zR2, zR1, zLe, trivial⟩
 ·rintro ⟨i23, i17, i19, i21⟩ _
  refine zSr<|z2 (zMp rfl)<|z2 (zn rfl)<|z2 (ze underlying100 rfl sizeOf45 (by decide) rfl rfl)<|z2 (ze underlying45 rfl sizeOf40 (by decide) rfl rfl)<|yn (l := [_]) (new := [_, _, _, _, _, _, _, _, _, _, _, _, _, _, _, _, _, _, _, _, _, _, _]) sizeOf40 rfl rfl rfl rfl rfl rfl .head rfl rfl<|z6<|adoptC_wp (off := 6) (k := 1) (T := 42) (fun _ => .head) rfl<|fun jo => adoptC_wp (off := 12) (k := 1) (T := 2) (fun _ => .t1) rfl<|fun jt => yc GStep.bagNew<|yc (za (zb .head))<|yc (za (zb .t1))<|yc (za (zb .t2))<|yc (za (zb .t6))<|yc (za (zb .t6))<|yc (za (zb .t6))<|yc (za (zb .t6))<|zd<|zSr<|z2 (zMp rfl)<|z2 (zn rfl)<|z2 (ze underlying100 rfl sizeOf23 (by decide) rfl rfl)<|z2 (zl (c := .own _ _) isAgg23 rfl ⟨_, .head⟩ rfl)<|z2 (Gv.lenO underlying23 rfl)<|z2 (zMi rfl)<|z6<|zi<|y5 (γ := Nat) [2, 3, 6, 32] (fun k => [(33, .int .i64 k)]) (fun k => wO f i23 i17 i19 i21 jo jt [] (begS (List.replicate f.vars.length 0) (List.replicate f.vars.length false) (fillM f.vars.length k) [])) (fun k => k ≤ f.vars.length) (fun k => f.vars.length - k) 0 zR1 ⟨_, (.refl _), by rw [fillM_0]; rfl⟩ (qt _) ?_
  rintro k hk
  refine zSr<|z2 (yb rfl rfl)<|z6<|zd<|zr rfl (fun ck=>?_) (fun ck=>?_)
  ·have hk2 : k < f.vars.length := by simp at ck; omega
   refine zh<|zd<|zi<|zSr<|z2 (zMi rfl)<|z2 (zAi rfl)<|z6<|zRg<|z2 (zMp rfl)<|z2 (zn rfl)<|z2 (ze underlying100 rfl sizeOf23 (by decide) rfl rfl)<|z2 (zl (c := .own _ _) isAgg23 rfl ⟨_, .head⟩ rfl)<|z2 (zMi rfl)<|z2 (yf (j := k) underlying23 sizeOf3 rfl rfl rfl ⟨_, .t3⟩ ((cI_len _).trans (fillM_len hk)) hk2)<|yu (j := k) sizeOf3 rfl rfl .t3 (by rw [fillM_len hk]; exact hk2)<|z6<|zRg<|z2 (zAd rfl rfl)<|z2 (zMi rfl)<|z6 ?_
   exact ⟨k + 1, zR4, zR1, ⟨_, (.refl _), by rw [← fillM_set hk2]⟩, hk2, by omega⟩
  ·obtain rfl : k = f.vars.length := by simp at ck; omega
   rw [fillM_n]
   refine y4<|zd<|zSr<|z2 (zFF underlying37 rfl sizeOf34 rfl rfl)<|z2 (zLf isAgg34 rfl)<|z2 (y2 underlying34 rfl)<|z2 (zMi rfl)<|z6<|zi<|y5 (γ := Nat) [2, 3, 6, 44, 45] (fun k => [(46, .int .i64 k)]) (fun k => wO f i23 i17 i19 i21 jo jt [] (begS (fillW (begI f) 0 f.vars.length (i.args.take k)) (fillW (begB f) false f.vars.length (i.args.take k)) (fillW (begA f) (-1) f.vars.length (i.args.take k)) [])) (fun k => k ≤ i.args.length) (fun k => i.args.length - k) 0 zR1 ⟨_, (.refl _), by rw [fill_0, fill_0, fill_0]⟩ (qt _) ?_
   rintro k hk
   refine zSr<|z2 (yb rfl rfl)<|z6<|zd<|zr rfl (fun ck=>?_) (fun ck=>?_)
   ·have hk2 : k < i.args.length := by simp at ck; omega
    obtain ⟨a, hea⟩ : ∃ a, i.args[k] = a := ⟨_, rfl⟩
    have hag : i.args[k]? = some a := by rw [qq hk2, hea]
    obtain ⟨v, hev⟩ : ∃ v, f.vars[k]? = some v := ⟨_, qq (by omega)⟩
    have hty : tyL f k = v.ty := by unfold tyL; rw [hev]; rfl
    have sI := fill_set (g := begI f) (d := 0) hk2 ha
    have sB := fill_set (g := begB f) (d := false) hk2 ha
    have sA := fill_set (g := begA f) (d := -1) hk2 ha
    have kI := fill_skip (g := begI f) (d := 0) hk2 ha
    have kB := fill_skip (g := begB f) (d := false) hk2 ha
    have kA := fill_skip (g := begA f) (d := -1) hk2 ha
    rw [hea] at sI sB sA kI kB kA
    refine zh<|zd<|zi<|zSr<|z2 (zMi rfl)<|z2 (zIM k underlying34 sizeOf66 rfl rfl rfl hag)<|z2 (zp isAgg66 sizeOf66 rfl rfl)<|zy (cs := [.int .i64 0, .bool false, .int .i64 0]) zeroValue66 rfl rfl<|fun i9 => z2 (zAi rfl)<|zq sizeOf66 rfl rfl rfl rfl rfl rfl .head rfl<|zc (yk (t := 9) rfl .head)<|z6<|zSr<|z2 (zFF underlying26 rfl sizeOf22 rfl rfl)<|z2 (zLf isAgg22 rfl)<|z2 (zMi rfl)<|z2 (zIM k underlying22 sizeOf79 rfl rfl rfl hev)<|z2 (zFF underlying79 rfl sizeOf77 rfl rfl)<|z2 (zLi isAgg77 rfl)<|z6<|zi<|zSr<|z2 (y7 rfl rfl)<|z2 (zAb rfl)<|z6<|zr rfl (fun c0=>?_) (fun c0=>?_)
    ·have c0 : tyL f k = 0 := hty.trans (by simpa using c0)
     rw [show begI f k a = a.int by unfold begI; rw [if_pos c0]] at sI
     have eB := kB (by unfold begB; rw [if_pos c0])
     have eA := kA (by unfold begA; rw [if_pos c0])
     refine zu (fun j => Nat.beq j 8) (by kernel_rfl) rfl (zm (.r (.rest _)))<|zTk 0 rfl (zMp rfl)<|zTk 1 rfl (zn rfl)<|zTk 2 rfl (ze underlying100 rfl sizeOf42 (by decide) rfl rfl)<|zTk 3 rfl (zl (c := .own _ _) isAgg42 rfl ⟨_, .head⟩ rfl)<|zTk 4 rfl (zMi rfl)<|zTk 5 rfl (zFF underlying66 rfl sizeOf2 rfl rfl)<|zTk 6 rfl (zLi isAgg2 rfl)<|zOn 7 rfl<|z2 (yf (j := k) underlying42 sizeOf2 rfl rfl rfl ⟨_, .head⟩ ((cI_len _).trans (fill_take ha k)) (by omega))<|z6<|y8<|ya (i := 8) rfl (by kernel_rfl) (by kernel_rfl)<|yu (j := k) sizeOf2 rfl rfl .t1 (by rw [fill_take ha]; omega)<|z6<|yd (by kernel_rfl)<|zRg<|z2 (zAd rfl rfl)<|z2 (zMi rfl)<|z6 ?_
     exact ⟨k + 1, zR5, zR1, ⟨_, (.refl _), by rw [← sI, ← eB, ← eA]⟩, hk2, by omega⟩
    ·have c0 : ¬ tyL f k = 0 := fun h => c0 (by rw [hty] at h; simpa using h)
     have eI := kI (by unfold begI; rw [if_neg c0])
     refine zSr<|z2 (y7 rfl rfl)<|z2 (zAb rfl)<|z6<|zr rfl (fun c1=>?_) (fun c1=>?_)
     ·have c1 : tyL f k = 1 := hty.trans (by simpa using c1)
      rw [show begB f k a = a.b by unfold begB; rw [if_neg c0, if_pos c1]] at sB
      have eA := kA (by unfold begA; rw [if_neg c0, if_pos c1])
      refine zu (fun j => Nat.beq j 8) (by kernel_rfl) rfl (zm (.r (.rest _)))<|zTk 0 rfl (zMp rfl)<|zTk 1 rfl (zn rfl)<|zTk 2 rfl (ze underlying100 rfl sizeOf98 (by decide) rfl rfl)<|zTk 3 rfl (zl (c := .own _ _) isAgg98 rfl ⟨_, .head⟩ rfl)<|zTk 4 rfl (zMi rfl)<|zTk 5 rfl (zFF underlying66 rfl sizeOf4 rfl rfl)<|zTk 6 rfl (qa (c := .bool _) isAgg4 rfl)<|zOn 7 rfl<|z2 (yf (j := k) underlying98 sizeOf4 rfl rfl rfl ⟨_, .t1⟩ ((cB_len _).trans (fill_take ha k)) (by omega))<|z6<|y8<|ya (i := 8) rfl (by kernel_rfl) (by kernel_rfl)<|qc (j := k) sizeOf4 rfl rfl .t2 (by rw [fill_take ha]; omega)<|z6<|yd (by kernel_rfl)<|zRg<|z2 (zAd rfl rfl)<|z2 (zMi rfl)<|z6 ?_
      exact ⟨k + 1, zR5, zR1, ⟨_, (.refl _), by rw [← sB, ← eI, ← eA]⟩, hk2, by omega⟩
     ·have c1 : ¬ tyL f k = 1 := fun h => c1 (by rw [hty] at h; simpa using h)
      rw [show begA f k a = a.arr by unfold begA; rw [if_neg c0, if_neg c1]] at sA
      have eB := kB (by unfold begB; rw [if_neg c0, if_neg c1])
      refine zu (fun j => Nat.beq j 8) (by kernel_rfl) rfl (zm (.r (.rest _)))<|zTk 0 rfl (zMp rfl)<|zTk 1 rfl (zn rfl)<|zTk 2 rfl (ze underlying100 rfl sizeOf23 (by decide) rfl rfl)<|zTk 3 rfl (zl (c := .own _ _) isAgg23 rfl ⟨_, .head⟩ rfl)<|zTk 4 rfl (zMi rfl)<|zTk 5 rfl (zFF underlying66 rfl sizeOf3 rfl rfl)<|zTk 6 rfl (zLi isAgg3 rfl)<|zOn 7 rfl<|z2 (yf (j := k) underlying23 sizeOf3 rfl rfl rfl ⟨_, .t2⟩ ((cI_len _).trans (fill_take ha k)) (by omega))<|z6<|y8<|ya (i := 8) rfl (by kernel_rfl) (by kernel_rfl)<|yu (j := k) sizeOf3 rfl rfl .t3 (by rw [fill_take ha]; omega)<|z6<|yd (by kernel_rfl)<|zRg<|z2 (zAd rfl rfl)<|z2 (zMi rfl)<|z6 ?_
      exact ⟨k + 1, zR5, zR1, ⟨_, (.refl _), by rw [← sA, ← eI, ← eB]⟩, hk2, by omega⟩
   ·obtain rfl : k = i.args.length := by simp at ck; omega
    rw [qv]
    refine y4<|zd<|zSr<|z2 (zFF underlying37 rfl sizeOf35 rfl rfl)<|z2 (zLf isAgg35 rfl)<|z2 (y2 underlying35 rfl)<|z2 (zMi rfl)<|z6<|zi<|y5 (γ := Nat × Nat × List Nat) [6, 87, 88] (fun g => [(89, .int .i64 g.1)]) (fun g => wO f i23 i17 i19 i21 g.2.1 jt g.2.2 (begS (fillW (begI f) 0 f.vars.length i.args) (fillW (begB f) false f.vars.length i.args) (fillW (begA f) (-1) f.vars.length i.args) (i.arrays.take g.1))) (fun g => g.1 ≤ i.arrays.length ∧ g.2.2.length = (i.arrays.take g.1).length) (fun g => i.arrays.length - g.1) (0, jo, []) zR1 zLe (⟨qt _, rfl⟩) ?_
    rintro ⟨k, jo, ids⟩ ⟨hk, hids⟩
    try dsimp only at *
    refine zSr<|z2 (yb rfl rfl)<|z6<|zd<|zr rfl (fun ck=>?_) (fun ck=>?_)
    ·have hk2 : k < i.arrays.length := by simp at ck; omega
     obtain ⟨r, her⟩ : ∃ r, i.arrays[k] = r := ⟨_, rfl⟩
     have hrg : i.arrays[k]? = some r := by rw [qq hk2, her]
     have hrl := hr r (qy hrg)
     have hts : i.arrays.take (k + 1) = i.arrays.take k ++ [r] := by rw [qr hk2, her]
     have htl : (i.arrays.take k).length = k := by rw [qz]; omega
     refine zh<|zd<|zi<|zSr<|z2 (zIM k underlying35 sizeOf42 rfl rfl rfl hrg)<|z2 (zLf isAgg42 rfl)<|z2 (zAf rfl)<|z6<|zu (fun j => Nat.beq j 12) (by kernel_rfl) rfl (zm (.r (.rest _)))<|zTk 0 rfl (zMp rfl)<|zTk 1 rfl (zMp rfl)<|zTk 2 rfl (zn rfl)<|zTk 3 rfl (ze underlying100 rfl sizeOf35 (by decide) rfl rfl)<|zTk 4 rfl (zl (c := .own _ _) isAgg35 rfl ⟨_, .head⟩ rfl)<|zTk 6 rfl (zMf rfl)<|zOn 5 rfl<|ye (k := 1) underlying42 type2<|fun i98 => z6<|zOn 7 rfl<|yg (k := 1) underlying42 type2 rfl rfl rfl rfl rfl (fun _ => .head) rfl (by decide) (by rw [flat_I]; exact cI_cell r) (by show (_ + _) * 8 ≤ _; simp; omega) (by simp; omega)<|fun i100 => z6<|zOn 8 rfl<|zw (rows := [[_]]) ps35_1 rfl rfl rfl rfl rfl<|z6<|zOn 9 rfl<|yg (k := 1) underlying35 type42 rfl rfl rfl rfl rfl (fun _ => .t4) (by show _ = (i.arrays.take k).length * 1; rw [owns_len hids]; omega) (by decide) rfl (by show ((i.arrays.take k).length + 1) * 24 ≤ _; omega) (by show (i.arrays.take k).length + 1 ≤ _; omega)<|fun i102 => z6<|yr (i := 10) rfl (by kernel_rfl) (by kernel_rfl) (by kernel_rfl) (by kernel_rfl) (zn rfl)<|zTk 11 rfl (ze underlying100 rfl sizeOf35 (by decide) rfl rfl)<|y8<|ya (i := 12) rfl (by kernel_rfl) (by kernel_rfl)<|yn (l := [_]) (new := [_, _, _, _, _, _, _, _, _, _, _, _, _, _, _, _, _, _, _, _, _, _, _]) sizeOf35 rfl rfl rfl rfl rfl rfl .head rfl rfl<|z6<|yd (by kernel_rfl)<|yc (GStep.bagIn (X' := bagA (ids ++ [i100]) (i.arrays.take k ++ [r])) .t1 ((by rw [List.nil_append, flat_I]; exact bag_push i100 r hids)) .t6)<|zRg<|z2 (zAd rfl rfl)<|z2 (zMi rfl) ?_
     refine z6 ?_
     exact ⟨(k + 1, i102, ids ++ [i100]), zR3, zR1, ⟨_, (.refl _), by dsimp only; rw [hts]; exact wO_push f i23 i17 i19 i21 i102 jt (s := begS (fillW (begI f) 0 f.vars.length i.args) (fillW (begB f) false f.vars.length i.args) (fillW (begA f) (-1) f.vars.length i.args) (i.arrays.take k)) hids i100 r _ (by simp)⟩, ⟨hk2, by dsimp only; rw [hts]; simp [hids]⟩, by dsimp only; omega⟩
    ·obtain rfl : k = i.arrays.length := by simp at ck; omega
     rw [qv] at hids
     rw [qv]
     refine y4<|zSr<|z2 (zMp rfl)<|z2 (zAp rfl)<|z6<|zg<|zk (x := .po _ _) rfl ?_
     exact ⟨i23, i17, i19, i21, jo, jt, ids, hids, rfl, rfl⟩
end Go.Proofs.YtiojekbkamegdaaGreatDoor
namespace Go.Proofs.YtiojekbkamegdaaGreatDoor
open Go.Proofs.Tryz
theorem iteP {α : Type} {P : α → Prop} {c : Prop} [Decidable c] {a b : α} (h1 : c → P a) (h2 : ¬ c → P b) : P (if c then a else b) := by
 split
 ·exact h1 (by assumption)
 ·exact h2 (by assumption)
theorem doG_any {P : GS → Prop} (s : GS) (x : PInst) (h1 : ∀ e, P (stopG s e)) (h2 : ∀ v, P (stI s x.dst v)) (h3 : ∀ v, P (stB s x.dst v)) (h4 : ∀ v, P (stA s x.dst v)) (h5 : ∀ a b c, P (stA (stB (stI s x.dst a) x.dst b) x.dst c)) (h6 : ∀ A, P { s with arrays := A })
  (h7 : ∀ A v, P (stA { s with arrays := A } x.dst v)) (h8 : ∀ t, P { s with trace := t }) : P (doG s x) := by
 unfold doG
 refine iteP (P := P) (fun _ => h2 _) fun _ => iteP (P := P) (fun _ => h5 _ _ _) fun _ => iteP (P := P) (fun _ => h2 _) fun _ => iteP (P := P) (fun _ => h2 _) fun _ => iteP (P := P) (fun _ => h2 _) fun _ =>
  iteP (P := P) (fun _ => iteP (P := P) (fun _ => h1 _) fun _ => h2 _) fun _ => iteP (P := P) (fun _ => iteP (P := P) (fun _ => h1 _) fun _ => h2 _) fun _ => iteP (P := P) (fun _ => h3 _) fun _ => iteP (P := P) (fun _ => h3 _) fun _ => iteP (P := P) (fun _ => h3 _) fun _ =>
  iteP (P := P) (fun _ => h3 _) fun _ => iteP (P := P) (fun _ => h3 _) fun _ => iteP (P := P) (fun _ => iteP (P := P) (fun _ => h1 _) fun _ => h2 _) fun _ => iteP (P := P) (fun _ => iteP (P := P) (fun _ => h2 _) fun _ => h1 _) fun _ => iteP (P := P) (fun _ => iteP (P := P) (fun _ => h6 _) fun _ => h1 _) fun _ =>
  iteP (P := P) (fun _ => iteP (P := P) (fun _ => h1 _) fun _ => iteP (P := P) (fun _ => h1 _) fun _ => h7 _ _) fun _ => iteP (P := P) (fun _ => h4 _) fun _ => iteP (P := P) (fun _ => h1 _) fun _ => h8 _
theorem inst_st (s : GS) (x : PInst) : (instG s x).st = s.st := by
 unfold instG
 split
 ·split <;> rfl
 ·exact doG_any (P := fun t => t.st = s.st) s x (fun _ => rfl) (fun _ => rfl) (fun _ => rfl) (fun _ => rfl) (fun _ _ _ => rfl) (fun _ => rfl) (fun _ _ => rfl) (fun _ => rfl)
theorem inst_ck (s : GS) (x : PInst) (i : Nat) : (instG s x).ck i ≤ s.ck i + 1 := by
 unfold instG
 split
 ·split
  ·show (if i = _ then s.ck i + 1 else s.ck i) ≤ _
   split <;> omega
  ·show (if i = _ then s.ck i + 1 else s.ck i) ≤ _
   split <;> omega
 ·exact doG_any (P := fun t => t.ck i ≤ s.ck i + 1) s x (fun _ => Nat.le_succ _) (fun _ => Nat.le_succ _) (fun _ => Nat.le_succ _) (fun _ => Nat.le_succ _) (fun _ _ _ => Nat.le_succ _) (fun _ => Nat.le_succ _) (fun _ _ => Nat.le_succ _) (fun _ => Nat.le_succ _)
theorem assigns_keep (s : GS) : ∀ (l : List PPhi) (t : GS), (l.foldl (assign s) t).st = t.st ∧ (l.foldl (assign s) t).ck = t.ck ∧ (l.foldl (assign s) t).ended = t.ended
 | [], _ => ⟨rfl, rfl, rfl⟩
 | p :: l, t => assigns_keep s l (assign s t p)
theorem enter_keep (f : PFunc) (s : GS) (to : Int) : (enterG f s to).st = s.st ∧ (enterG f s to).ck = s.ck := by
 unfold enterG
 split
 ·obtain ⟨h1, h2, _⟩ := assigns_keep s (blkG f to).phis s
  exact ⟨h1, h2⟩
 ·exact ⟨rfl, rfl⟩
theorem step_st (f : PFunc) (s : GS) : (stepG f s).st = s.st + 1 := by
 unfold stepG
 split
 ·rw [inst_st]
 ·split
  ·rfl
  ·rw [(enter_keep f _ _).1]
theorem step_ck (f : PFunc) (s : GS) (i : Nat) : (stepG f s).ck i ≤ s.ck i + 1 := by
 unfold stepG
 split
 ·exact inst_ck _ _ i
 ·split
  ·exact Nat.le_succ _
  ·rw [(enter_keep f _ _).2]; exact Nat.le_succ _
theorem run_ended {f : PFunc} {s : GS} (h : s.ended = true) : ∀ k, runG f k s = s
 | 0 => rfl
 | k + 1 => by unfold runG; rw [if_pos h]
def badArg (f : PFunc) (i : PIn) (q : PArg × Nat) : Bool := decide (tyL f q.2 = 2 ∧ (q.1.arr < -1 ∨ (i.arrays.length : Int) ≤ q.1.arr))
def rightG (f : PFunc) (i : PIn) : Int := if ¬ i.args.length = f.params.length then 1 else if i.args.zipIdx.any (badArg f i) = true then 1 else if 32 < i.arrays.length then 4 else if i.arrays.any (fun r => decide (64 < r.length)) = true then 4 else 0
def alikeG (a b : GS) : Bool := decide (a.en = b.en ∧ a.val = b.val ∧ a.tr = b.tr ∧ a.trace = b.trace)
def in64 (i : PIn) : Prop := (∀ a ∈ i.args, is64 a.int) ∧ ∀ r ∈ i.arrays, ∀ x ∈ r, is64 x
theorem mem_fill {α β : Type} {g : Nat → α → β} {d : β} {n : Nat} {l : List α} {x : β} (h : x ∈ fillW g d n l) : (∃ j a, l[j]? = some a ∧ x = g j a) ∨ x = d := by
 unfold fillW at h
 rcases List.mem_append.1 h with h | h
 ·obtain ⟨⟨a, j⟩, hm, rfl⟩ := List.mem_map.1 h
  exact .inl ⟨j, a, List.mk_mem_zipIdx_iff_getElem?.1 hm, rfl⟩
 ·exact .inr (List.mem_replicate.1 h).2
theorem GInv.beg {f : PFunc} {i : PIn} (hR : RunP f) (hp : f.params.length ≤ f.vars.length) (ht : ∀ j, 0 ≤ tyL f j ∧ tyL f j ≤ 2) (h : rightG f i = 0) (h64 : in64 i) : GInv f (begG f i) ∧ i.args.length ≤ f.vars.length := by
 unfold rightG at h
 split at h
 ·cases h
 rename_i h1
 split at h
 ·cases h
 rename_i h2
 split at h
 ·cases h
 rename_i h3
 split at h
 ·cases h
 rename_i h4
 have h1 : i.args.length = f.params.length := Classical.not_not.1 h1
 have hr : ∀ r ∈ i.arrays, r.length ≤ 64 := fun r hr => by
  refine Classical.byContradiction fun hn => h4 (List.any_eq_true.2 ⟨r, hr, w3 (by omega)⟩)
 have hl : i.args.length ≤ f.vars.length := by omega
 have hf : ∀ {β : Type} (g : Nat → PArg → β) (d : β), (fillW g d f.vars.length i.args).length = f.vars.length := fun g d => by unfold fillW; simp; omega
 refine ⟨⟨hf _ _, hf _ _, hf _ _, fun x hx => ?_, fun x hx => ?_, by show i.arrays.length ≤ 40; omega, fun r h => Nat.le_trans (hr r h) (by omega), h64.2, qt _, Int.le_refl _, by show (0 : Int) < f.blocks.length; have := hR.pos; omega, qt _⟩, hl⟩
 ·rcases mem_fill hx with ⟨j, a, ha, rfl⟩ | rfl
  ·unfold begI; split
   ·exact h64.1 a (qy ha)
   ·exact ⟨by decide, by decide⟩
  ·exact ⟨by decide, by decide⟩
 ·show _ ∧ _ < (i.arrays.length : Int)
  rcases mem_fill hx with ⟨j, a, ha, rfl⟩ | rfl
  ·unfold begA
   split
   ·exact ⟨by omega, by omega⟩
   split
   ·exact ⟨by omega, by omega⟩
   have := ht j
   have hb : ¬ badArg f i (a, j) = true := fun hb => h2 (List.any_eq_true.2 ⟨(a, j), qy (i := j) (by rw [List.getElem?_zipIdx, ha]; simp), hb⟩)
   unfold badArg at hb
   simp only [decide_eq_true_eq] at hb
   have h2' : tyL f j = 2 := by omega
   omega
  ·exact ⟨by omega, by omega⟩
end Go.Proofs.YtiojekbkamegdaaGreatDoor
namespace Go.Proofs.YtiojekbkamegdaaGreatDoor
open Go.Proofs.Tryz
open Go.Proofs Go.Lib Go.Shelf Go.RowKit
variable {E : World}
set_option maxRecDepth 20000
set_option maxHeartbeats 4000000 in
theorem wrun_spec (f : PFunc) (i : PIn) (n : Nat) (hR : RunP f) (hv : f.vars.length ≤ 1000) (hs : small f) (hi : GInv f (begG f i)) (ha : i.args.length ≤ f.vars.length) (hn : n ≤ 1000000000) : AFun prog E 19 [.agg (encF f), .agg (encIn i), .int .i64 n] (.agg (encOut (runG f n (begG f i)))) := by
 have hls := hi.ls
 have hlr := hi.lr
 refine zo func19 rfl (by decide) rfl<|zSr<|y9 (cs := _) rfl rfl rfl<|y9 (cs := _) rfl rfl rfl<|zy (cs := [.int .i64 0, .int .i64 0, .int .i64 0, .raw (.slice none 0 0), .int .i64 0, .int .i64 0, .int .i64 0, .int .i64 0, .int .i64 0, .int .i64 0, .int .i64 0, .int .i64 0, .int .i64 0]) zeroValue45 rfl rfl<|fun i6 => z6<|zSr<|z2 (zp isAgg26 sizeOf26 rfl rfl)<|z2 (zp isAgg37 sizeOf37 rfl rfl)<|y1 rfl (zm (.r (.rest _))) (wbegin_spec f i hv ha hls hlr) ?_
 rintro r11 O11 ⟨iw, ja, jb, jc, jo, jt, ids, hids, rfl, rfl⟩
 refine z2 (zAp rfl)<|z6<|zd<|zSr<|z2 (zAi rfl)<|z6<|zi<|y5 (γ := Nat × GS × Nat × Nat × List Nat) [2, 6, 7] (fun g => [(8, .int .i64 g.1)]) (fun g => wO f iw ja jb jc g.2.2.1 g.2.2.2.1 g.2.2.2.2 g.2.1 ++ [(i6, .cells 45 [.int .i64 0, .int .i64 0, .int .i64 0, .raw (.slice none 0 0), .int .i64 0, .int .i64 0, .int .i64 0, .int .i64 0, .int .i64 0, .int .i64 0, .int .i64 0, .int .i64 0, .int .i64 0])]) (fun g => g.1 ≤ n ∧ runG f (n - g.1) g.2.1 = runG f n (begG f i) ∧ GInv f g.2.1 ∧ g.2.1.st ≤ g.1 ∧ (∀ q, g.2.1.ck q ≤ g.1) ∧ g.2.2.2.2.length = g.2.1.arrays.length) (fun g => n - g.1) (0, begG f i, jo, jt, ids) zR1 zLe (⟨qt _, rfl, hi, qt _, fun _ => qt _, hids⟩) ?_
 rintro ⟨k, s, jo, jt, ids⟩ ⟨hk, hrun, hg, hst, hck, hids⟩
 try dsimp only at *
 refine zd<|zSr<|z2 (zMi rfl)<|z2 (zMi rfl)<|z2 (yb rfl rfl)<|z2 (zMb rfl)<|zt (s := 15) rfl (fun ck=>?_) (fun ck=>?_)
 ·have hk2 : k < n := by simp at ck; omega
  refine z8 rfl rfl ck<|z2 (zMp rfl)<|z8 rfl rfl ck<|z2 (zn rfl)<|z8 rfl rfl ck<|z2 (ze underlying100 rfl sizeOf4 (by decide) rfl rfl)<|z8 rfl rfl ck<|z2 (zl (c := .bool _) isAgg4 rfl ⟨_, .head⟩ rfl)<|z8 rfl rfl ck<|z2 (yl rfl)<|z2 (zPt rfl ck rfl)<|z6<|zz rfl (fun ce=>?_) (fun ce=>?_)
  ·have he : s.ended = false := by simpa using ce
   rw [show n - k = (n - (k + 1)) + 1 by omega, runG, if_neg (by rw [he]; decide)] at hrun
   refine zh<|zd<|zi<|zRg<|z2 (zMp rfl)<|y1 rfl (zm (.l (.l (.l (.l (.l (.l (.l (.r (.rest _)))))))))) (wstep_spec f iw ja jb jc jo jt ids s hids hg hR hv hs (by omega) (fun q => by have := hck q; omega)) ?_
   rintro r25 O25 ⟨jo', jt', ids', hl', rfl, rfl⟩
   refine z6<|zRg<|z2 (zMi rfl)<|z2 (zAd rfl rfl)<|z2 (zAi rfl)<|z6 ?_
   exact ⟨(k + 1, stepG f s, jo', jt', ids'), zR3, zR1, zLe, ⟨hk2, hrun, hg.step hR, by rw [step_st]; dsimp only; omega, fun q => Nat.le_trans (step_ck f s q) (by have := hck q; dsimp only; omega), hl'⟩, by dsimp only; omega⟩
  ·have he : s.ended = true := by simpa using ce
   have hend : runG f n (begG f i) = s := by rw [← hrun]; exact run_ended he _
   rw [hend]
   refine y4<|zd<|yc (GStep.knowIC (off := 12) .t5 .head rfl rfl)<|zRg<|z2 (zMp rfl)<|z2 (zn rfl)<|z2 (ze underlying100 rfl sizeOf45 (by decide) rfl rfl)<|z2 (Gv.loadAC (l := [_, _, _, _, _, _, _, _, _, _, _, _, _]) isAgg45 sizeOf45 rfl ⟨_, .head⟩ rfl rfl)<|zq sizeOf45 rfl rfl rfl rfl rfl rfl .t6 rfl<|z6<|zg<|afin.c1 rfl ⟨_, .t6⟩ isAgg45 sizeOf45 rfl ?_
   rfl
 ·have hk2 : k = n := by simp at ck; omega
  have hend : runG f n (begG f i) = s := by rw [← hrun, hk2, Nat.sub_self]; rfl
  rw [hend]
  refine z7 rfl rfl ck<|z7 rfl rfl ck<|z7 rfl rfl ck<|z7 rfl rfl ck<|z7 rfl rfl ck<|z2 (zPf rfl ck rfl)<|z6<|ym rfl rfl<|y4<|zd<|yc (GStep.knowIC (off := 12) .t5 .head rfl rfl)<|zRg<|z2 (zMp rfl)<|z2 (zn rfl)<|z2 (ze underlying100 rfl sizeOf45 (by decide) rfl rfl)<|z2 (Gv.loadAC (l := [_, _, _, _, _, _, _, _, _, _, _, _, _]) isAgg45 sizeOf45 rfl ⟨_, .head⟩ rfl rfl)<|zq sizeOf45 rfl rfl rfl rfl rfl rfl .t6 rfl<|z6<|zg<|afin.c1 rfl ⟨_, .t6⟩ isAgg45 sizeOf45 rfl ?_
  rfl
theorem rightG_spec (f : PFunc) (i : PIn) (hp : f.params.length ≤ f.vars.length) (hl : i.args.length ≤ 281474976710656) (hl2 : i.arrays.length ≤ 281474976710656) : AFun prog E 17 [.agg (encF f), .agg (encIn i)] (.int .i64 (rightG f i)) := by
 refine zo func17 rfl (by decide) rfl<|zSr<|y9 (cs := _) rfl rfl rfl<|y9 (cs := _) rfl rfl rfl<|z2 (zAi rfl)<|z6<|zd<|zSr<|z2 (zFF underlying37 rfl sizeOf34 rfl rfl)<|z2 (zLf isAgg34 rfl)<|z2 (y2 underlying34 rfl)<|z2 (zFF underlying26 rfl sizeOf23 rfl rfl)<|z2 (zLf isAgg23 rfl)<|z2 (y2 underlying23 rfl)<|z2 (yj rfl rfl)<|z6<|zz rfl (fun c1=>?_) (fun c1=>?_)
 ·have c1 : ¬ i.args.length = f.params.length := by simp at c1; omega
  refine zSr<|z2 (zAi rfl)<|z6<|zg<|zk (x := .int _ _) rfl ?_
  unfold rightG; rw [if_pos c1]
 ·have c1 : i.args.length = f.params.length := by simp at c1; omega
  refine zh<|zd<|zSr<|z2 (zFF underlying37 rfl sizeOf34 rfl rfl)<|z2 (zLf isAgg34 rfl)<|z2 (y2 underlying34 rfl)<|z2 (zMi rfl)<|z6<|zi<|y5 (γ := Nat) [2, 3, 17, 18] (fun k => [(19, .int .i64 k)]) (fun k => []) (fun k => k ≤ i.args.length ∧ ∀ (j : Nat) a, j < k → i.args[j]? = some a → badArg f i (a, j) = false) (fun k => i.args.length - k) 0 zR1 zLe (⟨qt _, fun j a h => absurd h (Nat.not_lt_zero _)⟩) ?_
  rintro k ⟨hk, hok⟩
  refine zSr<|z2 (yb rfl rfl)<|z6<|zd<|zr rfl (fun ck=>?_) (fun ck=>?_)
  ·have hk2 : k < i.args.length := by simp at ck; omega
   obtain ⟨a, hea⟩ : ∃ a, i.args[k] = a := ⟨_, rfl⟩
   have hag : i.args[k]? = some a := by rw [qq hk2, hea]
   obtain ⟨v, hev⟩ : ∃ v, f.vars[k]? = some v := ⟨_, qq (by omega)⟩
   have hty : tyL f k = v.ty := by unfold tyL; rw [hev]; rfl
   refine zh<|zd<|zi<|zSr<|z2 (zMi rfl)<|z2 (zIM k underlying34 sizeOf66 rfl rfl rfl hag)<|z2 (zp isAgg66 sizeOf66 rfl rfl)<|zy (cs := [.int .i64 0, .bool false, .int .i64 0]) zeroValue66 rfl rfl<|fun i6 => z2 (zAi rfl)<|zq sizeOf66 rfl rfl rfl rfl rfl rfl .head rfl<|zc (yk (t := 6) rfl .head)<|z6<|zd<|yp (γ := Bool) [2, 3, 17, 18, 19] (fun z => [(43, .bool z)]) (fun z => []) (fun z => z = badArg f i (a, k)) ?_ (fun _ _ h => h) ?_
   ·refine zRg<|z2 (zFF underlying26 rfl sizeOf22 rfl rfl)<|z2 (zLf isAgg22 rfl)<|z2 (zMi rfl)<|z2 (zIM k underlying22 sizeOf79 rfl rfl rfl hev)<|z2 (zFF underlying79 rfl sizeOf77 rfl rfl)<|z2 (zLi isAgg77 rfl)<|z2 (y7 rfl rfl)<|z2 (zMb rfl)<|zt (s := 31) rfl (fun c2=>?_) (fun c2=>?_)
    ·have d2 : tyL f k = 2 := hty.trans (by simpa using c2)
     refine z8 rfl rfl c2<|z2 (zFF underlying66 rfl sizeOf3 rfl rfl)<|z8 rfl rfl c2<|z2 (zLi isAgg3 rfl)<|z8 rfl rfl c2<|z2 (yb rfl rfl)<|z8 rfl rfl c2<|z2 (zMb rfl)<|zt (s := 35) rfl (fun c3=>?_) (fun c3=>?_)
     ·have d3 : a.arr < -1 := by simpa using c3
      refine z7 rfl rfl c3<|z7 rfl rfl c3<|z7 rfl rfl c3<|z7 rfl rfl c3<|z7 rfl rfl c3<|z7 rfl rfl c3<|z8 rfl rfl c2<|z2 (zPt rfl c3 rfl)<|z2 (zPt rfl c2 rfl)<|z6 ?_
      exact ⟨_, zR5, zR1, zLe, by unfold badArg; simp [d2, d3]⟩
     ·have d3 : ¬ a.arr < -1 := by simpa using c3
      refine z8 rfl rfl c3<|z2 (zFF underlying66 rfl sizeOf3 rfl rfl)<|z8 rfl rfl c3<|z2 (zLi isAgg3 rfl)<|z8 rfl rfl c3<|z2 (zFF underlying37 rfl sizeOf35 rfl rfl)<|z8 rfl rfl c3<|z2 (zLf isAgg35 rfl)<|z8 rfl rfl c3<|z2 (y2 underlying35 rfl)<|z8 rfl rfl c3<|z2 (q6 rfl rfl)<|z8 rfl rfl c2<|z2 (zPf rfl c3 rfl)<|z2 (zPt rfl c2 rfl)<|z6 ?_
      exact ⟨_, zR5, zR1, zLe, by unfold badArg; simp [d2, d3]⟩
    ·have d2 : ¬ tyL f k = 2 := fun h => by rw [hty] at h; simp [h] at c2
     refine z7 rfl rfl c2<|z7 rfl rfl c2<|z7 rfl rfl c2<|z7 rfl rfl c2<|zj rfl rfl<|zj rfl rfl<|zj rfl rfl<|zj rfl rfl<|zj rfl rfl<|zj rfl rfl<|z7 rfl rfl c2<|z2 (zPf rfl c2 rfl)<|z6 ?_
     exact ⟨_, zR5, zR1, zLe, by unfold badArg; simp [d2]⟩
   ·rintro z hz
    refine zz rfl (fun cz=>?_) (fun cz=>?_)
    ·have hb : i.args.zipIdx.any (badArg f i) = true := List.any_eq_true.2 ⟨(a, k), qy (i := k) (by rw [List.getElem?_zipIdx, hag]; simp), hz.symm.trans cz⟩
     refine zSr<|z2 (zAi rfl)<|z6<|zg<|zk (x := .int _ _) rfl ?_
     unfold rightG; rw [if_neg (fun h => h c1), if_pos hb]
    ·refine zh<|zRg<|z2 (zAd rfl rfl)<|z2 (zMi rfl)<|z6 ?_
     exact ⟨k + 1, zR4, zR1, zLe, ⟨hk2, fun j b hj hb => by rcases (by omega : j < k ∨ j = k) with h | rfl; exact hok j b h hb; rw [hag] at hb; cases hb; exact hz.symm.trans cz⟩, by omega⟩
  ·obtain rfl : k = i.args.length := by simp at ck; omega
   have hb : ¬ i.args.zipIdx.any (badArg f i) = true := fun h => by
    obtain ⟨⟨a, j⟩, hm, hh⟩ := List.any_eq_true.1 h
    obtain ⟨hj, e⟩ := List.mk_mem_zipIdx_iff_getElem?.1 hm |> fun h => (⟨(List.getElem?_eq_some_iff.1 h).1, h⟩ : j < i.args.length ∧ _)
    rw [hok j a hj e] at hh; cases hh
   refine y4<|zd<|zSr<|z2 (zFF underlying37 rfl sizeOf35 rfl rfl)<|z2 (zLf isAgg35 rfl)<|z2 (y2 underlying35 rfl)<|z2 (q4 rfl rfl)<|z6<|zr rfl (fun c32=>?_) (fun c32=>?_)
   ·have c32 : 32 < i.arrays.length := by omega
    refine zSr<|z2 (zAi rfl)<|z6<|zg<|zk (x := .int _ _) rfl ?_
    unfold rightG; rw [if_neg (fun h => h c1), if_neg hb, if_pos c32]
   ·have c32 : ¬ 32 < i.arrays.length := by omega
    refine zh<|zd<|zSr<|z2 (zFF underlying37 rfl sizeOf35 rfl rfl)<|z2 (zLf isAgg35 rfl)<|z2 (y2 underlying35 rfl)<|z2 (zMi rfl)<|z6<|zi<|y5 (γ := Nat) [50, 51] (fun k => [(52, .int .i64 k)]) (fun k => []) (fun k => k ≤ i.arrays.length ∧ ∀ r ∈ i.arrays.take k, decide (64 < r.length) = false) (fun k => i.arrays.length - k) 0 zR1 zLe (⟨qt _, fun r h => by simp at h⟩) ?_
    rintro k ⟨hk, hok⟩
    refine zSr<|z2 (yb rfl rfl)<|z6<|zd<|zr rfl (fun ck=>?_) (fun ck=>?_)
    ·have hk2 : k < i.arrays.length := by simp at ck; omega
     obtain ⟨r, her⟩ : ∃ r, i.arrays[k] = r := ⟨_, rfl⟩
     have hrg : i.arrays[k]? = some r := by rw [qq hk2, her]
     refine zh<|zd<|zi<|zSr<|z2 (zIM k underlying35 sizeOf42 rfl rfl rfl hrg)<|z2 (zLf isAgg42 rfl)<|z2 (zAf rfl)<|z6<|zSr<|z2 (zMf rfl)<|z2 (y2 underlying42 rfl)<|z2 (q4 rfl rfl)<|z6<|zr rfl (fun cr=>?_) (fun cr=>?_)
     ·have cr : 64 < r.length := by omega
      have hb4 : i.arrays.any (fun r => decide (64 < r.length)) = true := List.any_eq_true.2 ⟨r, qy hrg, w3 cr⟩
      refine zSr<|z2 (zAi rfl)<|z6<|zg<|zk (x := .int _ _) rfl ?_
      unfold rightG; rw [if_neg (fun h => h c1), if_neg hb, if_neg c32, if_pos hb4]
     ·have cr : ¬ 64 < r.length := by omega
      refine zh<|zRg<|z2 (zAd rfl rfl)<|z2 (zMi rfl)<|z6 ?_
      exact ⟨k + 1, zR2, zR1, zLe, ⟨hk2, fun q hq => by rw [qr hk2] at hq; rcases List.mem_append.1 hq with hq | hq; exact hok q hq; rw [List.mem_singleton.1 hq, her]; exact w4 cr⟩, by omega⟩
    ·obtain rfl : k = i.arrays.length := by simp at ck; omega
     rw [qv] at hok
     have hb4 : ¬ i.arrays.any (fun r => decide (64 < r.length)) = true := fun h => by
      obtain ⟨r, hm, hh⟩ := List.any_eq_true.1 h
      rw [hok r hm] at hh; cases hh
     refine y4<|zSr<|z2 (zAi rfl)<|z6<|zg<|zk (x := .int _ _) rfl ?_
     unfold rightG; rw [if_neg (fun h => h c1), if_neg hb, if_neg c32, if_neg hb4]
theorem alike_spec (a b : GS) (hl : a.trace.length ≤ 281474976710656) : AFun prog E 20 [.agg (encOut a), .agg (encOut b)] (.bool (alikeG a b)) := by
 refine zo func20 rfl (by decide) rfl<|zSr<|y9 (cs := _) rfl rfl rfl<|y9 (cs := _) rfl rfl rfl<|z2 (zAb rfl)<|z6<|zd<|zd<|yp (γ := Bool) [2, 3] (fun z => [(33, .bool z)]) (fun z => []) (fun z => z = !decide (a.en = b.en ∧ a.val = b.val ∧ a.tr = b.tr ∧ a.trace.length = b.trace.length)) ?_ (fun _ _ h => h) ?_
 ·refine zRg<|z2 (zFF underlying45 rfl sizeOf40 rfl rfl)<|z2 (zLi isAgg40 rfl)<|z2 (zFF underlying45 rfl sizeOf40 rfl rfl)<|z2 (zLi isAgg40 rfl)<|z2 (yj rfl rfl)<|z2 (zMb rfl)<|zt (s := 11) rfl (fun c1=>?_) (fun c1=>?_)
  ·have d1 : ¬ a.en = b.en := by simpa using c1
   refine z7 rfl rfl c1<|z7 rfl rfl c1<|z7 rfl rfl c1<|z7 rfl rfl c1<|z7 rfl rfl c1<|z2 (zPt rfl c1 rfl)<|z2 (zMb rfl)<|z7 rfl rfl rfl<|z7 rfl rfl rfl<|z7 rfl rfl rfl<|z7 rfl rfl rfl<|z7 rfl rfl rfl<|z2 (zPt rfl rfl rfl)<|z2 (zMb rfl)<|z7 rfl rfl rfl<|z7 rfl rfl rfl<|z7 rfl rfl rfl<|z7 rfl rfl rfl<|z7 rfl rfl rfl<|z7 rfl rfl rfl<|z7 rfl rfl rfl<|z2 (zPt rfl rfl rfl)<|z6 ?_
   exact ⟨_, zR2, zR1, zLe, by simp [d1]⟩
  ·have d1 : a.en = b.en := by simpa using c1
   refine z8 rfl rfl c1<|z2 (zFF underlying45 rfl sizeOf2 rfl rfl)<|z8 rfl rfl c1<|z2 (zLi isAgg2 rfl)<|z8 rfl rfl c1<|z2 (zFF underlying45 rfl sizeOf2 rfl rfl)<|z8 rfl rfl c1<|z2 (zLi isAgg2 rfl)<|z8 rfl rfl c1<|z2 (yj rfl rfl)<|z2 (zPf rfl c1 rfl)<|z2 (zMb rfl)<|zt (s := 18) rfl (fun c2=>?_) (fun c2=>?_)
   ·have d2 : ¬ a.val = b.val := by simpa using c2
    refine z7 rfl rfl c2<|z7 rfl rfl c2<|z7 rfl rfl c2<|z7 rfl rfl c2<|z7 rfl rfl c2<|z2 (zPt rfl c2 rfl)<|z2 (zMb rfl)<|z7 rfl rfl rfl<|z7 rfl rfl rfl<|z7 rfl rfl rfl<|z7 rfl rfl rfl<|z7 rfl rfl rfl<|z7 rfl rfl rfl<|z7 rfl rfl rfl<|z2 (zPt rfl rfl rfl)<|z6 ?_
    exact ⟨_, zR2, zR1, zLe, by simp [d2]⟩
   ·have d2 : a.val = b.val := by simpa using c2
    refine z8 rfl rfl c2<|z2 (zFF underlying45 rfl sizeOf41 rfl rfl)<|z8 rfl rfl c2<|z2 (zLi isAgg41 rfl)<|z8 rfl rfl c2<|z2 (zFF underlying45 rfl sizeOf41 rfl rfl)<|z8 rfl rfl c2<|z2 (zLi isAgg41 rfl)<|z8 rfl rfl c2<|z2 (yj rfl rfl)<|z2 (zPf rfl c2 rfl)<|z2 (zMb rfl)<|zt (s := 25) rfl (fun c3=>?_) (fun c3=>?_)
    ·have d3 : ¬ a.tr = b.tr := by simpa using c3
     refine z7 rfl rfl c3<|z7 rfl rfl c3<|z7 rfl rfl c3<|z7 rfl rfl c3<|z7 rfl rfl c3<|z7 rfl rfl c3<|z7 rfl rfl c3<|z2 (zPt rfl c3 rfl)<|z6 ?_
     exact ⟨_, zR2, zR1, zLe, by simp [d3]⟩
    ·have d3 : a.tr = b.tr := by simpa using c3
     refine z8 rfl rfl c3<|z2 (zFF underlying45 rfl sizeOf42 rfl rfl)<|z8 rfl rfl c3<|z2 (zLf isAgg42 rfl)<|z8 rfl rfl c3<|z2 (y2 underlying42 rfl)<|z8 rfl rfl c3<|z2 (zFF underlying45 rfl sizeOf42 rfl rfl)<|z8 rfl rfl c3<|z2 (zLf isAgg42 rfl)<|z8 rfl rfl c3<|z2 (y2 underlying42 rfl)<|z8 rfl rfl c3<|z2 (yj rfl rfl)<|z2 (zPf rfl c3 rfl)<|z6 ?_
     exact ⟨_, zR2, zR1, zLe, by simp [d1, d2, d3]; omega⟩
 ·rintro z hz
  refine zz rfl (fun cz=>?_) (fun cz=>?_)
  ·have cz : ¬ (a.en = b.en ∧ a.val = b.val ∧ a.tr = b.tr ∧ a.trace.length = b.trace.length) := by intro h; rw [hz, w3 h] at cz; cases cz
   refine zSr<|z2 (zAb rfl)<|z6<|zg<|zk (x := .bool _) rfl ?_
   unfold alikeG; rw [w4]; rintro ⟨h1, h2, h3, h4⟩; exact cz ⟨h1, h2, h3, by rw [h4]⟩
  ·have cz : a.en = b.en ∧ a.val = b.val ∧ a.tr = b.tr ∧ a.trace.length = b.trace.length := Classical.byContradiction fun h => by rw [hz, w4 h] at cz; cases cz
   refine zh<|zd<|zSr<|z2 (zFF underlying45 rfl sizeOf42 rfl rfl)<|z2 (zLf isAgg42 rfl)<|z2 (y2 underlying42 rfl)<|z2 (zMi rfl)<|z6<|zi<|y5 (γ := Nat) [2, 3, 36] (fun k => [(37, .int .i64 k)]) (fun k => []) (fun k => k ≤ a.trace.length ∧ a.trace.take k = b.trace.take k) (fun k => a.trace.length - k) 0 zR1 zLe (⟨qt _, by simp⟩) ?_
   rintro k ⟨hk, hok⟩
   refine zSr<|z2 (yb rfl rfl)<|z6<|zd<|zr rfl (fun ck=>?_) (fun ck=>?_)
   ·have hk2 : k < a.trace.length := by simp at ck; omega
    have hk3 : k < b.trace.length := by omega
    refine zh<|zd<|zi<|zSr<|z2 (zMi rfl)<|z2 (zAi rfl)<|z6<|zd<|zu (fun j => false) (by kernel_rfl) rfl (zm (.rest _))<|zTk 0 rfl (zFF underlying45 rfl sizeOf42 rfl rfl)<|zTk 1 rfl (zLf isAgg42 rfl)<|zTk 2 rfl (zMi rfl)<|zTk 3 rfl (zIM k underlying42 sizeOf2 rfl rfl rfl (qq hk2))<|zTk 4 rfl (zLi isAgg2 rfl)<|zTk 5 rfl (zFF underlying45 rfl sizeOf42 rfl rfl)<|zTk 6 rfl (zLf isAgg42 rfl)<|zTk 7 rfl (zMi rfl)<|zTk 8 rfl (zIM k underlying42 sizeOf2 rfl rfl rfl (qq hk3))<|zTk 9 rfl (zLi isAgg2 rfl)<|zTk 10 rfl (yj rfl rfl)<|zDn<|zz rfl (fun cn=>?_) (fun cn=>?_)
    ·have cn : ¬ a.trace[k] = b.trace[k] := by simpa using cn
     refine zSr<|z2 (zAb rfl)<|z6<|zg<|zk (x := .bool _) rfl ?_
     unfold alikeG; rw [w4]; rintro ⟨h1, h2, h3, h4⟩; exact cn (by simp only [h4])
    ·have cn : a.trace[k] = b.trace[k] := by simpa using cn
     refine zh<|zRg<|z2 (zAd rfl rfl)<|z2 (zMi rfl)<|z6 ?_
     exact ⟨k + 1, zR3, zR1, zLe, ⟨hk2, by rw [qr hk2, qr hk3, hok, cn]⟩, by omega⟩
   ·obtain rfl : k = a.trace.length := by simp at ck; omega
    have ht : a.trace = b.trace := by rw [qv] at hok; rw [hok, cz.2.2.2, qv]
    refine y4<|zSr<|z2 (zAb rfl)<|z6<|zg<|zk (x := .bool _) rfl ?_
    unfold alikeG; rw [w3]; exact ⟨cz.1, cz.2.1, cz.2.2.1, ht⟩
end Go.Proofs.YtiojekbkamegdaaGreatDoor
namespace Go.Proofs.YtiojekbkamegdaaGreatDoor
open Go.Proofs.Tryz
structure MS where
 blk : Int
 pc : Nat
 en : Int
 ret : Bool
 tr : Int
 st : Nat
 ck : Nat
 ended : Bool
deriving DecidableEq
def blkM (f : PFunc) (s : MS) : PBlock := (f.blocks[s.blk.toNat]?).getD ⟨⟨#[]⟩, [], [], ⟨2, 0, 0, 0⟩⟩
def stepM (f : PFunc) (nz way : Bool) (s : MS) : MS :=
 if s.pc < (blkM f s).insts.length then
  if nz = true then ⟨s.blk, s.pc + 1, s.en, s.ret, s.tr, s.st + 1, s.ck + 1, s.ended⟩ else ⟨s.blk, s.pc + 1, 1, s.ret, 3, s.st + 1, s.ck + 1, true⟩
 else if (blkM f s).term.kind = 2 then ⟨s.blk, s.pc, 0, true, s.tr, s.st + 1, s.ck, true⟩
 else if (blkM f s).term.kind = 0 ∨ way = true then ⟨(blkM f s).term.to0, 0, s.en, s.ret, s.tr, s.st + 1, s.ck, s.ended⟩
 else ⟨(blkM f s).term.to1, 0, s.en, s.ret, s.tr, s.st + 1, s.ck, s.ended⟩
def runM (f : PFunc) (nz way : Bool) : Nat → MS → MS
 | 0, s => s
 | k + 1, s => if s.ended = true then s else runM f nz way k (stepM f nz way s)
def begM : MS := ⟨0, 0, 3, false, 0, 0, 0, false⟩
def askB (f : PFunc) : Bool := decide (f.vars.map PVar.ty = [0, 1]) && (decide (f.params = [0, 1]) && (decide (0 < f.blocks.length) && f.blocks.all fun b => decide (b.phis = []) && (b.insts.all (fun x => decide (x.op = 20 ∧ x.args = [0])) &&
 (decide (b.term.kind = 2 ∧ b.term.var = 0) || (decide ((b.term.kind = 0 ∨ (b.term.kind = 1 ∧ b.term.var = 1)) ∧ (0 ≤ b.term.to0 ∧ b.term.to0 < f.blocks.length) ∧ (0 ≤ b.term.to1 ∧ b.term.to1 < f.blocks.length)))))))
structure AskP (f : PFunc) : Prop where
 ty : f.vars.map PVar.ty = [0, 1]
 par : f.params = [0, 1]
 pos : 0 < f.blocks.length
 phis : ∀ b ∈ f.blocks, b.phis = []
 insts : ∀ b ∈ f.blocks, ∀ x ∈ b.insts, x.op = 20 ∧ x.args = [0]
 term : ∀ b ∈ f.blocks, (b.term.kind = 2 ∧ b.term.var = 0) ∨ ((b.term.kind = 0 ∨ (b.term.kind = 1 ∧ b.term.var = 1)) ∧ (0 ≤ b.term.to0 ∧ b.term.to0 < f.blocks.length) ∧ (0 ≤ b.term.to1 ∧ b.term.to1 < f.blocks.length))
theorem askP_of {f : PFunc} (h : askB f = true) : AskP f := by
 unfold askB at h
 simp only [Bool.and_eq_true, decide_eq_true_eq, List.all_eq_true, Bool.or_eq_true] at h
 obtain ⟨h1, h2, h3, h4⟩ := h
 exact ⟨h1, h2, h3, fun b hb => (h4 b hb).1, fun b hb => (h4 b hb).2.1, fun b hb => (h4 b hb).2.2⟩
theorem stepM_blk {f : PFunc} (h : AskP f) (nz way : Bool) {s : MS} (h0 : 0 ≤ s.blk) (h1 : s.blk < f.blocks.length) : 0 ≤ (stepM f nz way s).blk ∧ (stepM f nz way s).blk < f.blocks.length := by
 have hg : f.blocks[s.blk.toNat]? = some (f.blocks[s.blk.toNat]'(by omega)) := qq (by omega)
 have hb : blkM f s = f.blocks[s.blk.toNat]'(by omega) := by unfold blkM; rw [hg]; rfl
 have ht := h.term _ (qu (show s.blk.toNat < f.blocks.length by omega))
 unfold stepM
 rw [hb]
 split
 ·split <;> exact ⟨h0, h1⟩
 ·split
  ·exact ⟨h0, h1⟩
  ·rename_i hk
   rcases ht with ht | ht
   ·exact absurd ht.1 hk
   ·split
    ·exact ht.2.1
    ·exact ht.2.2
end Go.Proofs.YtiojekbkamegdaaGreatDoor
namespace Go.Proofs.YtiojekbkamegdaaGreatDoor
open Go.Proofs.Tryz
theorem gs_ext {s t : GS} (h1 : s.ints = t.ints) (h2 : s.bools = t.bools) (h3 : s.arrs = t.arrs) (h4 : s.arrays = t.arrays) (h5 : s.blk = t.blk) (h6 : s.pc = t.pc) (h7 : s.en = t.en) (h8 : s.val = t.val) (h9 : s.tr = t.tr) (h10 : s.trace = t.trace) (h11 : s.st = t.st) (h12 : s.ck = t.ck) (h13 : s.ended = t.ended) : s = t := by
 cases s; cases t; simp only at *; subst h1 h2 h3 h4 h5 h6 h7 h8 h9 h10 h11 h12 h13; rfl
def ckM (k : Nat) (i : Nat) : Nat := if i = 3 then k else 0
def ofM (n : Int) (way : Bool) (s : MS) : GS := ⟨[n, 0], [false, way], [-1, -1], [], s.blk, s.pc, s.en, if s.ret = true then n else 0, s.tr, [], s.st, ckM s.ck, s.ended⟩
theorem bump_ck (k : Nat) : (fun i => if i = 3 then ckM k i + 1 else ckM k i) = ckM (k + 1) := funext fun i => by
 unfold ckM; split <;> rfl
theorem step_ask {f : PFunc} (hA : AskP f) (n : Int) (way : Bool) {s : MS} (h0 : 0 ≤ s.blk) (h1 : s.blk < f.blocks.length) : stepG f (ofM n way s) = ofM n way (stepM f (!decide (n = 0)) way s) := by
 have hg : f.blocks[s.blk.toNat]? = some (blkM f s) := by unfold blkM; rw [qq (by omega)]; rfl
 have hm := qy hg
 have hb : blkG f s.blk = blkM f s := rfl
 unfold stepG stepM
 show (match (blkG f s.blk).insts[s.pc]? with | some x => _ | none => _) = _
 rw [hb]
 by_cases hp : s.pc < (blkM f s).insts.length
 ·rw [if_pos hp, qq hp]
  obtain ⟨e1, e2⟩ := hA.insts _ hm _ (qu hp)
  show instG (ofM n way ⟨s.blk, s.pc + 1, s.en, s.ret, s.tr, s.st + 1, s.ck, s.ended⟩) ((blkM f s).insts[s.pc]) = _
  unfold instG
  rw [if_pos (by rw [e1]; decide)]
  have hpass : passG (ofM n way ⟨s.blk, s.pc + 1, s.en, s.ret, s.tr, s.st + 1, s.ck, s.ended⟩) ((blkM f s).insts[s.pc]).op ((blkM f s).insts[s.pc]).args = !decide (n = 0) := by
   unfold passG
   rw [e1, e2, if_neg (by decide), if_neg (by decide), if_pos rfl]
   show decide (n ≠ 0) = _
   simp
  rw [hpass, e1]
  show (if (!decide (n = 0)) = true then bumpG _ 3 else trapG (bumpG _ 3) 3) = _
  split
  ·exact gs_ext rfl rfl rfl rfl rfl rfl rfl rfl rfl rfl rfl (bump_ck s.ck) rfl
  ·exact gs_ext rfl rfl rfl rfl rfl rfl rfl rfl rfl rfl rfl (bump_ck s.ck) rfl
 ·rw [if_neg hp, List.getElem?_eq_none (by omega)]
  have ht := hA.term _ hm
  show (if (blkM f s).term.kind = 2 then _ else enterG f _ (nextG f (ofM n way s))) = _
  by_cases hk : (blkM f s).term.kind = 2
  ·rw [if_pos hk, if_pos hk]
   have hv : (blkM f s).term.var = 0 := by rcases ht with h | h; exact h.2; have := h.1; omega
   refine gs_ext rfl rfl rfl rfl rfl rfl rfl ?_ rfl rfl rfl rfl rfl
   show vi [n, 0] (blkM f s).term.var = n
   rw [hv]; rfl
  ·rw [if_neg hk, if_neg hk]
   have ht : ((blkM f s).term.kind = 0 ∨ ((blkM f s).term.kind = 1 ∧ (blkM f s).term.var = 1)) ∧ (0 ≤ (blkM f s).term.to0 ∧ (blkM f s).term.to0 < f.blocks.length) ∧ (0 ≤ (blkM f s).term.to1 ∧ (blkM f s).term.to1 < f.blocks.length) := by
    rcases ht with h | h
    ·exact absurd h.1 hk
    ·exact h
   have hnext : nextG f (ofM n way s) = if (blkM f s).term.kind = 0 ∨ way = true then (blkM f s).term.to0 else (blkM f s).term.to1 := by
    show (if (blkM f s).term.kind = 0 ∨ gb [false, way] (blkM f s).term.var = true then _ else _) = _
    rcases ht.1 with h | ⟨h, hv⟩
    ·rw [if_pos (.inl h), if_pos (.inl h)]; rfl
    ·rw [hv]; rfl
   have hin : ∀ to : Int, 0 ≤ to ∧ to < f.blocks.length → enterG f (ofM n way ⟨s.blk, s.pc, s.en, s.ret, s.tr, s.st + 1, s.ck, s.ended⟩) to = ofM n way ⟨to, 0, s.en, s.ret, s.tr, s.st + 1, s.ck, s.ended⟩ := fun to hto => by
    have hph := hA.phis _ (blk_mem hto.1 hto.2)
    unfold enterG
    rw [hph]; rfl
   rw [hnext]
   show enterG f (ofM n way ⟨s.blk, s.pc, s.en, s.ret, s.tr, s.st + 1, s.ck, s.ended⟩) _ = _
   split
   ·rw [hin _ ht.2.1]
   ·rw [hin _ ht.2.2]
theorem run_ask {f : PFunc} (hA : AskP f) (n : Int) (way : Bool) : ∀ (k : Nat) (s : MS), 0 ≤ s.blk → s.blk < f.blocks.length → runG f k (ofM n way s) = ofM n way (runM f (!decide (n = 0)) way k s)
 | 0, _, _, _ => rfl
 | k + 1, s, h0, h1 => by
  obtain ⟨g0, g1⟩ := stepM_blk hA (!decide (n = 0)) way h0 h1
  unfold runG runM
  show (if s.ended = true then _ else _) = _
  split
  ·rfl
  ·rw [step_ask hA n way h0 h1]; exact run_ask hA n way k _ g0 g1
def inM (n : Int) (way : Bool) : PIn := ⟨[⟨n, false, 0⟩, ⟨0, way, 0⟩], []⟩
theorem beg_ask {f : PFunc} (hA : AskP f) (n : Int) (way : Bool) : begG f (inM n way) = ofM n way begM := by
 obtain ⟨v0, v1, hv, t0, t1⟩ : ∃ v0 v1, f.vars = [v0, v1] ∧ v0.ty = 0 ∧ v1.ty = 1 := by
  have h1 := hA.ty
  match hv : f.vars, h1 with
  | [], h1 => simp at h1
  | [_], h1 => simp at h1
  | [a, b], h1 => simp at h1; exact ⟨a, b, rfl, h1.1, h1.2⟩
  | _ :: _ :: _ :: _, h1 => simp at h1
 have e0 : tyL f 0 = 0 := by unfold tyL; rw [hv]; exact t0
 have e1 : tyL f 1 = 1 := by unfold tyL; rw [hv]; exact t1
 have hl : f.vars.length = 2 := by rw [hv]; rfl
 unfold begG
 rw [hl]
 refine gs_ext ?_ ?_ ?_ rfl rfl rfl rfl rfl rfl rfl rfl ?_ rfl
 ·show [begI f 0 ⟨n, false, 0⟩, begI f 1 ⟨0, way, 0⟩] = [n, 0]
  unfold begI; rw [e0, e1]; rfl
 ·show [begB f 0 ⟨n, false, 0⟩, begB f 1 ⟨0, way, 0⟩] = [false, way]
  unfold begB; rw [e0, e1]; rfl
 ·show [begA f 0 ⟨n, false, 0⟩, begA f 1 ⟨0, way, 0⟩] = [-1, -1]
  unfold begA; rw [e0, e1]; rfl
 ·funext i; show 0 = ckM 0 i; unfold ckM; split <;> rfl
end Go.Proofs.YtiojekbkamegdaaGreatDoor
