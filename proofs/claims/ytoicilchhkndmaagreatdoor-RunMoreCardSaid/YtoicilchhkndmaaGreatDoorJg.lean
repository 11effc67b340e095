/- What an instruction of the program's machine makes. Of programs as they are run. -/
import Derived.Test.YtoicilchhkndmaaGreatDoorJf
set_option linter.unusedVariables false
set_option linter.unusedSimpArgs false
set_option linter.unusedSectionVars false
namespace Go.Proofs.YtoicilchhkndmaaGreatDoor
open Go.Proofs.Tryz
open Go.Proofs Go.Lib Go.Shelf Go.RowKit
theorem ps27_1 : PlacesS prog 27 50 1 3 [.int .i64 0, .bool false, .int .i64 0] := ⟨_, j5, wy, jc, by decide, by decide, by kernel_rfl⟩
variable {E : World}
set_option maxRecDepth 20000
abbrev sCe (f : PFunc) (jv jh jt : Nat) (s : PS) : List AV := encF f ++ [.own jv s.v.length, .po jh 0, .int .i64 s.blk, .int .i64 s.pc, .int .i64 s.en, .int .i64 s.val, .int .i64 s.tr, .own jt s.trace.length, .int .i64 s.st, .int .i64 (vi s.ck 0), .int .i64 (vi s.ck 1), .int .i64 (vi s.ck 2), .int .i64 (vi s.ck 3), .int .i64 (vi s.ck 4), .int .i64 (vi s.ck 5), .int .i64 (vi s.ck 6), .int .i64 (vi s.ck 7), .bool s.ended]
abbrev sR (jv jh jo jt : Nat) (ids : List Nat) (s : PS) : OL := [(jv, .grow 3 50 (aC s.v)), (jh, .cells 107 [.own jo s.rows.length]), (jo, .grow 1 37 (ownsA ids s.rows)), (jt, .grow 1 2 (cI s.trace)), (0, bag (bagA ids s.rows))]
abbrev sO (f : PFunc) (iw jv jh jo jt : Nat) (ids : List Nat) (s : PS) : OL := (iw, .cells 84 (sCe f jv jh jt s)) :: sR jv jh jo jt ids s
theorem send_spec (f : PFunc) (iw jv jh jo jt : Nat) (ids : List Nat) (s : PS) (e : Int) : ACall prog E 48 [.po iw 0, .int .i64 e] (sO f iw jv jh jo jt ids s) (fun y O => y = .tup [] ∧ O = sO f iw jv jh jo jt ids (endP s e)) := by
 refine zn func48 Z (by decide) Z<|zRg<|zVzMp Z<|zVzMp Z<|zVzMi Z<|z7 (zq Z)<|z7 (zf wz Z j3 (by decide) Z Z)<|z7 (zf j4 Z Y6 (by decide) Z Z)<|yd (l := [_]) (new := [_, _, _, _, _, _, _, _, _, _, _, _, _, _, _, _, _, _, _, _, _]) Y6 Z Z Z Z Z Z .head Z Z<|z7 (zq Z)<|z7 (zf wz Z Zj (by decide) Z Z)<|yd (l := [_]) (new := [_, _, _, _, _, _, _, _, _, _, _, _, _, _, _, _, _, _, _, _, _]) Zj Z Z Z Z Z Z .head Z Z<|z6<|yp ?_
 exact ⟨rfl, rfl⟩
theorem argv_get {s : PS} {v : Int} (h1 : v < s.v.length) (h0 : 0 ≤ v) : s.v[v.toNat]? = some (argv s v) := by
 unfold argv; rw [q3 (by omega)]; rfl
theorem sargs_spec (f : PFunc) (iw jv jh jo jt : Nat) (ids : List Nat) (s : PS) (l : List Int) (hl : ∀ v ∈ l, v < s.v.length ∧ 0 ≤ v) (hn : l.length ≤ 1000000) : ACall prog E 43 [.po iw 0, .fro 1 (l.map encI)] (sO f iw jv jh jo jt ids s) (fun y O => y = .fro 3 ((l.map (argv s)).map encA) ∧ O = sO f iw jv jh jo jt ids s) := by
 refine zn func43 Z (by decide) Z<|zSr<|z7 (zAr Z)<|z6<|zSr<|z7 (zAr Z)<|z6<|adopt_wp (t := 5) (k := 3) (T := 50) Z<|fun i5 => zc<|zSr<|zVzMf Z<|zVGvlenM ja Z<|zVzMi Z<|z6<|zi<|yg (γ := Nat × Nat) [0, 8, 9] (fun g => [(10, .int .i64 g.1), (5, .own g.2 g.1)]) (fun g => (g.2, .grow 3 50 (aC ((l.take g.1).map (argv s)))) :: sO f iw jv jh jo jt ids s) (fun g => g.1 ≤ l.length) (fun g => l.length - g.1) (0, i5) zR2 zLe (q5 _) ?_
 rintro ⟨k, i5⟩ hk
 try dsimp only at *
 refine zSr<|zVGvlss Z Z<|z6<|zc<|y9 Z (fun ck=>?_) (fun ck=>?_)
 ·have hk2 : k < l.length := by simp at ck; omega
  obtain ⟨a, ha⟩ : ∃ a, l[k] = a := ⟨_, rfl⟩
  have hag : l[k]? = some a := by rw [q3 hk2, ha]
  obtain ⟨h1, h0⟩ := hl a (List.mem_of_getElem? hag)
  refine zj<|zc<|zi<|zSr<|z7 (zIM k ja j6 Z Z Z (by rw [hag])) ?_
  refine zVzLi je Z<|zVzAi Z<|z6<|zRg<|z7 (zMo Z)<|zVzMp Z<|z7 (zq Z)<|z7 (zf wz Z Ze (by decide) Z Z)<|z7 (zt (c := .own _ _) Zv Z ⟨_, .t1⟩ Z)<|zVzMi Z<|z7 (Gv.idxA3 (j := a.toNat) j5 wy Z Z (Int.toNat_of_nonneg h0).symm ⟨_, .t2⟩ Z (by omega))<|z7 (Gv.loadA3 (j := a.toNat) jj wy Z ⟨_, .t2⟩ (argv_get h1 h0))<|yi (rows := [[_, _, _]]) ps27_1 Z Z Z Z Z<|yo (k := 3) j5 type50 Z Z Z Z Z (fun _ => .head) (by rw [aC_len, List.length_map, List.length_take]; omega) (by decide) Z (by show (_ + 1) * 24 ≤ _; omega) (by show _ + 1 ≤ _; omega)<|fun i23 => z7 (zAo Z)<|z6<|zRg<|zVzAd Z Z<|zVzMi Z<|z6 ?_
  exact ⟨(k + 1, i23), zR3, zR2, ⟨_, (.refl _), by rw [q4 hk2, ha, List.map_append, List.map_cons, List.map_nil, ← aC_push]; rfl⟩, hk2, by dsimp only; omega⟩
 ·obtain rfl : k = l.length := by simp at ck; omega
  rw [q7]
  refine yf<|zSr<|z7 (zMo Z)<|z7 (zAo Z)<|z6<|zp (GStep.knowA3 (t := 4) Z .head (List.length_map _))<|ze<|zk (x := .fro _ _) Z ?_
  exact ⟨rfl, rfl⟩
theorem sfits_spec (op x y : Int) (hop : op = 21 ∨ op = 22 ∨ op = 23) (hx : is64 x) (hy : is64 y) : AFun prog E 114 [.int .i64 op, .int .i64 x, .int .i64 y] (.bool (decide (fit3 (op - 21).toNat x y))) := by
 refine zn func114 Z (by decide) Z ?_
 rcases hop with rfl | rfl | rfl
 ·refine zSr<|zVzAb Z<|z6<|zSr<|zVzAb Z<|z6<|zc<|zSr<|zVzMi Z<|z6<|zi<|zc<|zSr<|zVGveqlI Z Z<|zVzAb Z<|z6<|zb Z (by decide)<|zRg<|zVGveqlI Z Z<|zVzAb Z<|z6<|zy Z (by decide)<|zRg<|zVzMi Z<|zVzMi Z<|zd (aAdd hx hy) Z<|z7 (zMu Z)<|z7 (zXi Z Z)<|z7 (zXb Z Z)<|zVzAb Z<|z6<|zSr<|zVzMb Z<|zVzAb Z<|z6<|ze<|zk (x := .bool _) Z ?_
  rfl
 ·refine zSr<|zVzAb Z<|z6<|zSr<|zVzAb Z<|z6<|zc<|zSr<|zVzMi Z<|z6<|zi<|zc<|zSr<|zVGveqlI Z Z<|zVzAb Z<|z6<|zb Z (by decide)<|zRg<|zVGveqlI Z Z<|zVzAb Z<|z6<|zb Z (by decide)<|zc<|zSr<|zVGveqlI Z Z<|zVzAb Z<|z6<|zb Z (by decide)<|zRg<|zVGveqlI Z Z<|zVzAb Z<|z6<|zy Z (by decide)<|zRg<|zVzMi Z<|zVzMi Z<|zd (aSub hx hy) Z<|z7 (zMu Z)<|z7 (zXi Z Z)<|z7 (zXb Z Z)<|zVzAb Z ?_
  refine z6<|zSr<|zVzMb Z<|zVzAb Z<|z6<|ze<|zk (x := .bool _) Z ?_
  rfl
 ·refine zSr<|zVzAb Z<|z6<|zSr<|zVzAb Z<|z6<|zc<|zSr<|zVzMi Z<|z6<|zi<|zc<|zSr<|zVGveqlI Z Z<|zVzAb Z<|z6<|zb Z (by decide)<|zRg<|zVGveqlI Z Z<|zVzAb Z<|z6<|zb Z (by decide)<|zc<|zSr<|zVGveqlI Z Z<|zVzAb Z<|z6<|zb Z (by decide)<|zRg<|zVGveqlI Z Z<|zVzAb Z<|z6<|zb Z (by decide)<|zc<|zSr<|zVGveqlI Z Z<|zVzAb Z<|z6<|zb Z (by decide)<|zRg<|zVGveqlI Z Z ?_
  refine zVzAb Z<|z6<|zy Z (by decide)<|zRg<|zVzMi Z<|zVzMi Z<|zd (aMul hx hy) Z<|z7 (zMu Z)<|z7 (zXi Z Z)<|z7 (zXb Z Z)<|zVzAb Z<|z6<|zSr<|zVzMb Z<|zVzAb Z<|z6<|ze<|zk (x := .bool _) Z ?_
  rfl
def zA : PArg := ⟨0, false, -1⟩
def passR (rows : List (List Int)) (op : Int) (a b : PArg) : Bool :=
 if op = 18 then placeR rows a.arr b.int
 else if op = 19 then decide (a.arr ≠ -1)
 else if op = 20 then decide (a.int ≠ 0)
 else if op = 24 then decide (0 ≤ a.int ∧ a.int ≤ 64)
 else decide (fit3 (op - 21).toNat a.int b.int)
theorem len1 {α : Type} {l : List α} (h : l.length = 1) : ∃ a, l = [a] := by
 match l, h with
 | [a], _ => exact ⟨a, rfl⟩
theorem len2 {α : Type} {l : List α} (h : l.length = 2) : ∃ a b, l = [a, b] := by
 match l, h with
 | [a, b], _ => exact ⟨a, b, rfl⟩
theorem spasses_spec (jh jo : Nat) (ids : List Nat) (rows : List (List Int)) (op : Int) (l : List PArg) (hop : 18 ≤ op ∧ op ≤ 24) (hl : l.length = (takesL op).length) (hids : ids.length = rows.length) (h64 : ∀ a ∈ l, is64 a.int) : ACall prog E 78 [.int .i64 op, .po jh 0, .fro 3 (l.map encA)] (hO jh jo ids rows) (fun y O => y = .bool (passR rows op ((l[0]?).getD zA) ((l[1]?).getD zA)) ∧ O = hO jh jo ids rows) := by
 have hck : AFun prog E 44 [.int .i64 op] (.bool true) := by have := chkOp_spec (E := E) op; rwa [decide_eq_true hop.1, decide_eq_true hop.2] at this
 have htk := takes_spec (E := E) op
 have hop7 : op = 18 ∨ op = 19 ∨ op = 20 ∨ op = 21 ∨ op = 22 ∨ op = 23 ∨ op = 24 := by omega
 refine zn func78 Z (by decide) Z ?_
 rcases hop7 with rfl | rfl | rfl | rfl | rfl | rfl | rfl
 ·obtain ⟨a, b, rfl⟩ := len2 hl
  refine zSr<|zVzAb Z<|z6<|zc<|zSr<|zVzMi Z<|zd (hck) Z<|zVGvnot Z<|zVzMb Z<|za Z Z Z<|zVzMf Z<|za Z Z Z<|zVGvlenM j5 Z<|za Z Z Z<|zVzMi Z<|za Z Z Z<|zd (htk) Z<|za Z Z Z<|zVGvlenM Z4 Z<|za Z Z Z<|zVGvlss Z Z<|zVzPf Z Z Z<|z6<|zb Z Z<|zj<|zc<|zSr<|zVzMi Z<|z6<|zi<|zSr<|zVGveqlI Z Z<|zVzAb Z<|z6<|zy Z (by decide)<|zc<|zw (fun j => false) (by kernel_rfl) Z (zr (.rest _))<|zTk 0 Z (zMp Z)<|zTk 1 Z (zMf Z)<|zTk 2 Z (zIM 0 j5 wy Z Z Z Z)<|zTk 3 Z (zFF j8 Z j6 Z Z) ?_
  refine zTk 4 Z (zLi je Z)<|zTk 5 Z (zMf Z)<|zTk 6 Z (zIM 1 j5 wy Z Z Z Z)<|zTk 7 Z (zFF j8 Z jm Z Z)<|zTk 8 Z (zLi Z5 Z)<|zOn 9 Z<|y7 Z (zr (.l (.l (.l (.rest _))))) (hin_spec jh jo ids rows a.arr b.int hids) ?_
  rintro r30 O30 ⟨rfl, rfl⟩
  refine z6<|zTk 10 Z (zAb Z)<|zDn<|ze<|zk (x := .bool _) Z ?_
  exact ⟨rfl, rfl⟩
 ·obtain ⟨a, rfl⟩ := len1 hl
  refine zSr<|zVzAb Z<|z6<|zc<|zSr<|zVzMi Z<|zd (hck) Z<|zVGvnot Z<|zVzMb Z<|za Z Z Z<|zVzMf Z<|za Z Z Z<|zVGvlenM j5 Z<|za Z Z Z<|zVzMi Z<|za Z Z Z<|zd (htk) Z<|za Z Z Z<|zVGvlenM Z4 Z<|za Z Z Z<|zVGvlss Z Z<|zVzPf Z Z Z<|z6<|zb Z Z<|zj<|zc<|zSr<|zVzMi Z<|z6<|zi<|zSr<|zVGveqlI Z Z<|zVzAb Z<|z6<|zb Z (by decide)<|zSr<|zVGveqlI Z Z<|zVzAb Z<|z6<|zy Z (by decide)<|zSr ?_
  refine zVzMf Z<|z7 (zIM 0 j5 wy Z Z Z Z)<|zVzFF j8 Z j6 Z Z<|zVzLi je Z<|z7 (yq Z Z)<|zVzAb Z<|z6<|ze<|zk (x := .bool _) Z ?_
  exact ⟨congrArg AV.bool (by unfold passR; simp), rfl⟩
 ·obtain ⟨a, rfl⟩ := len1 hl
  refine zSr<|zVzAb Z<|z6<|zc<|zSr<|zVzMi Z<|zd (hck) Z<|zVGvnot Z<|zVzMb Z<|za Z Z Z<|zVzMf Z<|za Z Z Z<|zVGvlenM j5 Z<|za Z Z Z<|zVzMi Z<|za Z Z Z<|zd (htk) Z<|za Z Z Z<|zVGvlenM Z4 Z<|za Z Z Z<|zVGvlss Z Z<|zVzPf Z Z Z<|z6<|zb Z Z<|zj<|zc<|zSr<|zVzMi Z<|z6<|zi<|zSr<|zVGveqlI Z Z<|zVzAb Z<|z6<|zb Z (by decide)<|zSr<|zVGveqlI Z Z<|zVzAb Z<|z6<|zb Z (by decide)<|zSr ?_
  refine zVGveqlI Z Z<|zVzAb Z<|z6<|zy Z (by decide)<|zSr<|zVzMf Z<|z7 (zIM 0 j5 wy Z Z Z Z)<|zVzFF j8 Z jm Z Z<|zVzLi Z5 Z<|z7 (yq Z Z)<|zVzAb Z<|z6<|ze<|zk (x := .bool _) Z ?_
  exact ⟨congrArg AV.bool (by unfold passR; simp), rfl⟩
 ·obtain ⟨a, b, rfl⟩ := len2 hl
  refine zSr<|zVzAb Z<|z6<|zc<|zSr<|zVzMi Z<|zd (hck) Z<|zVGvnot Z<|zVzMb Z<|za Z Z Z<|zVzMf Z<|za Z Z Z<|zVGvlenM j5 Z<|za Z Z Z<|zVzMi Z<|za Z Z Z<|zd (htk) Z<|za Z Z Z<|zVGvlenM Z4 Z<|za Z Z Z<|zVGvlss Z Z<|zVzPf Z Z Z<|z6<|zb Z Z<|zj<|zc<|zSr<|zVzMi Z<|z6<|zi<|zSr<|zVGveqlI Z Z<|zVzAb Z<|z6<|zb Z (by decide)<|zSr<|zVGveqlI Z Z<|zVzAb Z<|z6<|zb Z (by decide)<|zSr ?_
  refine zVGveqlI Z Z<|zVzAb Z<|z6<|zb Z (by decide)<|zSr<|zVGveqlI Z Z<|zVzAb Z<|z6<|zb Z (by decide)<|zj<|zc<|zw (fun j => false) (by kernel_rfl) Z (zr (.rest _))<|zTk 0 Z (zMi Z)<|zTk 1 Z (zMf Z)<|zTk 2 Z (zIM 0 j5 wy Z Z Z Z)<|zTk 3 Z (zFF j8 Z jm Z Z)<|zTk 4 Z (zLi Z5 Z)<|zTk 5 Z (zMf Z)<|zTk 6 Z (zIM 1 j5 wy Z Z Z Z)<|zTk 7 Z (zFF j8 Z jm Z Z)<|zTk 8 Z (zLi Z5 Z)<|zOn 9 Z<|zd (sfits_spec 21 a.int b.int (by decide) (h64 a (by simp)) (h64 b (by simp))) Z<|z6<|zTk 10 Z (zAb Z)<|zDn<|ze<|zk (x := .bool _) Z ?_
  exact ⟨rfl, rfl⟩
 ·obtain ⟨a, b, rfl⟩ := len2 hl
  refine zSr<|zVzAb Z<|z6<|zc<|zSr<|zVzMi Z<|zd (hck) Z<|zVGvnot Z<|zVzMb Z<|za Z Z Z<|zVzMf Z<|za Z Z Z<|zVGvlenM j5 Z<|za Z Z Z<|zVzMi Z<|za Z Z Z<|zd (htk) Z<|za Z Z Z<|zVGvlenM Z4 Z<|za Z Z Z<|zVGvlss Z Z<|zVzPf Z Z Z<|z6<|zb Z Z<|zj<|zc<|zSr<|zVzMi Z<|z6<|zi<|zSr<|zVGveqlI Z Z<|zVzAb Z<|z6<|zb Z (by decide)<|zSr<|zVGveqlI Z Z<|zVzAb Z<|z6<|zb Z (by decide)<|zSr ?_
  refine zVGveqlI Z Z<|zVzAb Z<|z6<|zb Z (by decide)<|zSr<|zVGveqlI Z Z<|zVzAb Z<|z6<|zb Z (by decide)<|zj<|zc<|zw (fun j => false) (by kernel_rfl) Z (zr (.rest _))<|zTk 0 Z (zMi Z)<|zTk 1 Z (zMf Z)<|zTk 2 Z (zIM 0 j5 wy Z Z Z Z)<|zTk 3 Z (zFF j8 Z jm Z Z)<|zTk 4 Z (zLi Z5 Z)<|zTk 5 Z (zMf Z)<|zTk 6 Z (zIM 1 j5 wy Z Z Z Z)<|zTk 7 Z (zFF j8 Z jm Z Z)<|zTk 8 Z (zLi Z5 Z)<|zOn 9 Z<|zd (sfits_spec 22 a.int b.int (by decide) (h64 a (by simp)) (h64 b (by simp))) Z<|z6<|zTk 10 Z (zAb Z)<|zDn<|ze<|zk (x := .bool _) Z ?_
  exact ⟨rfl, rfl⟩
 ·obtain ⟨a, b, rfl⟩ := len2 hl
  refine zSr<|zVzAb Z<|z6<|zc<|zSr<|zVzMi Z<|zd (hck) Z<|zVGvnot Z<|zVzMb Z<|za Z Z Z<|zVzMf Z<|za Z Z Z<|zVGvlenM j5 Z<|za Z Z Z<|zVzMi Z<|za Z Z Z<|zd (htk) Z<|za Z Z Z<|zVGvlenM Z4 Z<|za Z Z Z<|zVGvlss Z Z<|zVzPf Z Z Z<|z6<|zb Z Z<|zj<|zc<|zSr<|zVzMi Z<|z6<|zi<|zSr<|zVGveqlI Z Z<|zVzAb Z<|z6<|zb Z (by decide)<|zSr<|zVGveqlI Z Z<|zVzAb Z<|z6<|zb Z (by decide)<|zSr ?_
  refine zVGveqlI Z Z<|zVzAb Z<|z6<|zb Z (by decide)<|zSr<|zVGveqlI Z Z<|zVzAb Z<|z6<|zb Z (by decide)<|zj<|zc<|zw (fun j => false) (by kernel_rfl) Z (zr (.rest _))<|zTk 0 Z (zMi Z)<|zTk 1 Z (zMf Z)<|zTk 2 Z (zIM 0 j5 wy Z Z Z Z)<|zTk 3 Z (zFF j8 Z jm Z Z)<|zTk 4 Z (zLi Z5 Z)<|zTk 5 Z (zMf Z)<|zTk 6 Z (zIM 1 j5 wy Z Z Z Z)<|zTk 7 Z (zFF j8 Z jm Z Z)<|zTk 8 Z (zLi Z5 Z)<|zOn 9 Z<|zd (sfits_spec 23 a.int b.int (by decide) (h64 a (by simp)) (h64 b (by simp))) Z<|z6<|zTk 10 Z (zAb Z)<|zDn<|ze<|zk (x := .bool _) Z ?_
  exact ⟨rfl, rfl⟩
 ·obtain ⟨a, rfl⟩ := len1 hl
  refine zSr<|zVzAb Z<|z6<|zc<|zSr<|zVzMi Z<|zd (hck) Z<|zVGvnot Z<|zVzMb Z<|za Z Z Z<|zVzMf Z<|za Z Z Z<|zVGvlenM j5 Z<|za Z Z Z<|zVzMi Z<|za Z Z Z<|zd (htk) Z<|za Z Z Z<|zVGvlenM Z4 Z<|za Z Z Z<|zVGvlss Z Z<|zVzPf Z Z Z<|z6<|zb Z Z<|zj<|zc<|zSr<|zVzMi Z<|z6<|zi<|zSr<|zVGveqlI Z Z<|zVzAb Z<|z6<|zb Z (by decide)<|zSr<|zVGveqlI Z Z<|zVzAb Z<|z6<|zb Z (by decide)<|zSr ?_
  refine zVGveqlI Z Z<|zVzAb Z<|z6<|zb Z (by decide)<|zSr<|zVGveqlI Z Z<|zVzAb Z<|z6<|zy Z (by decide)<|zSr<|zVzMf Z<|z7 (zIM 0 j5 wy Z Z Z Z)<|zVzFF j8 Z jm Z Z<|zVzLi Z5 Z<|zd (hsize_spec a.int) Z<|zVzAb Z<|z6<|ze<|zk (x := .bool _) Z ?_
  exact ⟨rfl, rfl⟩
end Go.Proofs.YtoicilchhkndmaaGreatDoor
namespace Go.Proofs.YtoicilchhkndmaaGreatDoor
open Go.Proofs.Tryz
open Go.Proofs Go.Lib Go.Shelf Go.RowKit
theorem pl50 : Places prog 50 #[(0, 1), (1, 1), (2, 1)] [.int .i64 0, .bool false, .int .i64 0] := ⟨_, _, j8, jc, fun w => by kernel_rfl, rfl⟩
variable {E : World}
set_option maxRecDepth 20000
theorem sdiv_spec (x y : Int) : AFun prog E 141 [.int .i64 x, .int .i64 y] (.tup [.int .i64 (if y = 0 then 0 else IntKind.i64.wrap (x.tdiv y)), .bool (decide (y ≠ 0))]) := by
 refine zn func141 Z (by decide) Z<|zSr<|zVzAi Z<|zVzAb Z<|z6<|zc<|zSr<|zVzMi Z<|zVGveqlI Z Z<|z6<|y9 Z (fun c=>?_) (fun c=>?_)
 ·have c : y = 0 := by simpa using c
  refine zSr<|zVzAi Z<|zVzAb Z<|z6<|ze<|yh (x := .int _ _) (y := .bool _) Z Z ?_
  rw [if_pos c, decide_eq_false (by simpa using c)]
 ·have c : ¬ y = 0 := by simpa using c
  refine zj<|zSr<|zVzMi Z<|zVzMi Z<|z7 (Gv.quo Z Z (by omega))<|zVzAi Z<|zVzAb Z<|z6<|ze<|yh (x := .int _ _) (y := .bool _) Z Z ?_
  rw [if_neg c, decide_eq_true (by simpa using c)]
theorem srem_spec (x y : Int) : AFun prog E 142 [.int .i64 x, .int .i64 y] (.tup [.int .i64 (if y = 0 then 0 else x.tmod y), .bool (decide (y ≠ 0))]) := by
 refine zn func142 Z (by decide) Z<|zSr<|zVzAi Z<|zVzAb Z<|z6<|zc<|zSr<|zVzMi Z<|zVGveqlI Z Z<|z6<|y9 Z (fun c=>?_) (fun c=>?_)
 ·have c : y = 0 := by simpa using c
  refine zSr<|zVzAi Z<|zVzAb Z<|z6<|ze<|yh (x := .int _ _) (y := .bool _) Z Z ?_
  rw [if_pos c, decide_eq_false (by simpa using c)]
 ·have c : ¬ y = 0 := by simpa using c
  refine zj<|zSr<|zVzMi Z<|zVzMi Z<|z7 (Gv.rem Z Z (by omega))<|zVzAi Z<|zVzAb Z<|z6<|ze<|yh (x := .int _ _) (y := .bool _) Z Z ?_
  rw [if_neg c, decide_eq_true (by simpa using c)]
def cmpR (op x y : Int) : Bool := if op = 7 then decide (x = y) else if op = 8 then decide (x < y) else if op = 9 then decide (x ≤ y) else false
def appR (op x y : Int) : Int :=
 if op = 2 then IntKind.i64.wrap (x + y) else if op = 3 then IntKind.i64.wrap (x - y) else if op = 4 then IntKind.i64.wrap (x * y)
 else if op = 5 then (if y = 0 then 0 else IntKind.i64.wrap (x.tdiv y)) else if op = 6 then (if y = 0 then 0 else x.tmod y) else 0
def appOk (op y : Int) : Bool := if op = 5 ∨ op = 6 then decide (y ≠ 0) else true
def isNumS (op : Int) : Prop := op = 2 ∨ op = 3 ∨ op = 4 ∨ op = 5 ∨ op = 6 ∨ op = 7 ∨ op = 8 ∨ op = 9
theorem scmp_spec (op x y : Int) (hop : isNumS op) : AFun prog E 119 [.int .i64 op, .int .i64 x, .int .i64 y] (.tup [.bool (cmpR op x y), .bool (decide (7 ≤ op))]) := by
 refine zn func119 Z (by decide) Z ?_
 rcases hop with rfl | rfl | rfl | rfl | rfl | rfl | rfl | rfl
 ·refine zSr<|zVzAb Z<|zVzAb Z<|z6<|zc<|zSr<|zVzMi Z<|z6<|zi<|zSr<|zVGveqlI Z Z<|zVzAb Z<|z6<|zb Z (by decide)<|zSr<|zVGveqlI Z Z<|zVzAb Z<|z6<|zb Z (by decide)<|zSr<|zVGveqlI Z Z<|zVzAb Z<|z6<|zb Z (by decide)<|zj<|zSr<|zVzAb Z<|zVzAb Z<|z6<|ze<|yh (x := .bool _) (y := .bool _) Z Z ?_
  rfl
 ·refine zSr<|zVzAb Z<|zVzAb Z<|z6<|zc<|zSr<|zVzMi Z<|z6<|zi<|zSr<|zVGveqlI Z Z<|zVzAb Z<|z6<|zb Z (by decide)<|zSr<|zVGveqlI Z Z<|zVzAb Z<|z6<|zb Z (by decide)<|zSr<|zVGveqlI Z Z<|zVzAb Z<|z6<|zb Z (by decide)<|zj<|zSr<|zVzAb Z<|zVzAb Z<|z6<|ze<|yh (x := .bool _) (y := .bool _) Z Z ?_
  rfl
 ·refine zSr<|zVzAb Z<|zVzAb Z<|z6<|zc<|zSr<|zVzMi Z<|z6<|zi<|zSr<|zVGveqlI Z Z<|zVzAb Z<|z6<|zb Z (by decide)<|zSr<|zVGveqlI Z Z<|zVzAb Z<|z6<|zb Z (by decide)<|zSr<|zVGveqlI Z Z<|zVzAb Z<|z6<|zb Z (by decide)<|zj<|zSr<|zVzAb Z<|zVzAb Z<|z6<|ze<|yh (x := .bool _) (y := .bool _) Z Z ?_
  rfl
 ·refine zSr<|zVzAb Z<|zVzAb Z<|z6<|zc<|zSr<|zVzMi Z<|z6<|zi<|zSr<|zVGveqlI Z Z<|zVzAb Z<|z6<|zb Z (by decide)<|zSr<|zVGveqlI Z Z<|zVzAb Z<|z6<|zb Z (by decide)<|zSr<|zVGveqlI Z Z<|zVzAb Z<|z6<|zb Z (by decide)<|zj<|zSr<|zVzAb Z<|zVzAb Z<|z6<|ze<|yh (x := .bool _) (y := .bool _) Z Z ?_
  rfl
 ·refine zSr<|zVzAb Z<|zVzAb Z<|z6<|zc<|zSr<|zVzMi Z<|z6<|zi<|zSr<|zVGveqlI Z Z<|zVzAb Z<|z6<|zb Z (by decide)<|zSr<|zVGveqlI Z Z<|zVzAb Z<|z6<|zb Z (by decide)<|zSr<|zVGveqlI Z Z<|zVzAb Z<|z6<|zb Z (by decide)<|zj<|zSr<|zVzAb Z<|zVzAb Z<|z6<|ze<|yh (x := .bool _) (y := .bool _) Z Z ?_
  rfl
 ·refine zSr<|zVzAb Z<|zVzAb Z<|z6<|zc<|zSr<|zVzMi Z<|z6<|zi<|zSr<|zVGveqlI Z Z<|zVzAb Z<|z6<|zy Z (by decide)<|zSr<|zVzMi Z<|zVzMi Z<|zVGveqlI Z Z<|zVzAb Z<|zVzAb Z<|z6<|ze<|yh (x := .bool _) (y := .bool _) Z Z ?_
  rfl
 ·refine zSr<|zVzAb Z<|zVzAb Z<|z6<|zc<|zSr<|zVzMi Z<|z6<|zi<|zSr<|zVGveqlI Z Z<|zVzAb Z<|z6<|zb Z (by decide)<|zSr<|zVGveqlI Z Z<|zVzAb Z<|z6<|zy Z (by decide)<|zSr<|zVzMi Z<|zVzMi Z<|zVGvlss Z Z<|zVzAb Z<|zVzAb Z<|z6<|ze<|yh (x := .bool _) (y := .bool _) Z Z ?_
  rfl
 ·refine zSr<|zVzAb Z<|zVzAb Z<|z6<|zc<|zSr<|zVzMi Z<|z6<|zi<|zSr<|zVGveqlI Z Z<|zVzAb Z<|z6<|zb Z (by decide)<|zSr<|zVGveqlI Z Z<|zVzAb Z<|z6<|zb Z (by decide)<|zSr<|zVGveqlI Z Z<|zVzAb Z<|z6<|zy Z (by decide)<|zSr<|zVzMi Z<|zVzMi Z<|z7 (Gv.leq Z Z)<|zVzAb Z<|zVzAb Z<|z6<|ze<|yh (x := .bool _) (y := .bool _) Z Z ?_
  rfl
theorem sapp_spec (op x y : Int) (hop : isNumS op) (h7 : op < 7) : AFun prog E 120 [.int .i64 op, .int .i64 x, .int .i64 y] (.tup [.int .i64 (appR op x y), .bool (appOk op y)]) := by
 refine zn func120 Z (by decide) Z ?_
 have hop5 : op = 2 ∨ op = 3 ∨ op = 4 ∨ op = 5 ∨ op = 6 := by unfold isNumS at hop; omega
 rcases hop5 with rfl | rfl | rfl | rfl | rfl
 ·refine zSr<|zVzAi Z<|zVzAb Z<|z6<|zc<|zSr<|zVzMi Z<|z6<|zi<|zSr<|zVGveqlI Z Z<|zVzAb Z<|z6<|zy Z (by decide)<|zSr<|zVzMi Z<|zVzMi Z<|z7 (Gv.addW Z Z)<|zVzAi Z<|zVzAb Z<|z6<|ze<|yh (x := .int _ _) (y := .bool _) Z Z ?_
  rfl
 ·refine zSr<|zVzAi Z<|zVzAb Z<|z6<|zc<|zSr<|zVzMi Z<|z6<|zi<|zSr<|zVGveqlI Z Z<|zVzAb Z<|z6<|zb Z (by decide)<|zSr<|zVGveqlI Z Z<|zVzAb Z<|z6<|zy Z (by decide)<|zSr<|zVzMi Z<|zVzMi Z<|z7 (Gv.subW Z Z)<|zVzAi Z<|zVzAb Z<|z6<|ze<|yh (x := .int _ _) (y := .bool _) Z Z ?_
  rfl
 ·refine zSr<|zVzAi Z<|zVzAb Z<|z6<|zc<|zSr<|zVzMi Z<|z6<|zi<|zSr<|zVGveqlI Z Z<|zVzAb Z<|z6<|zb Z (by decide)<|zSr<|zVGveqlI Z Z<|zVzAb Z<|z6<|zb Z (by decide)<|zSr<|zVGveqlI Z Z<|zVzAb Z<|z6<|zy Z (by decide)<|zSr<|zVzMi Z<|zVzMi Z<|z7 (Gv.mulW Z Z)<|zVzAi Z<|zVzAb Z<|z6<|ze<|yh (x := .int _ _) (y := .bool _) Z Z ?_
  rfl
 ·refine zSr<|zVzAi Z<|zVzAb Z<|z6<|zc<|zSr<|zVzMi Z<|z6<|zi<|zSr<|zVGveqlI Z Z<|zVzAb Z<|z6<|zb Z (by decide)<|zSr<|zVGveqlI Z Z<|zVzAb Z<|z6<|zb Z (by decide)<|zSr<|zVGveqlI Z Z<|zVzAb Z<|z6<|zb Z (by decide)<|zSr<|zVGveqlI Z Z<|zVzAb Z<|z6<|zy Z (by decide)<|zSr<|zVzMi Z<|zVzMi Z<|zd (sdiv_spec x y) Z<|z7 (zXi Z Z)<|z7 (zXb Z Z)<|zVzAi Z<|zVzAb Z<|z6<|ze<|yh (x := .int _ _) (y := .bool _) Z Z ?_
  rfl
 ·refine zSr<|zVzAi Z<|zVzAb Z<|z6<|zc<|zSr<|zVzMi Z<|z6<|zi<|zSr<|zVGveqlI Z Z<|zVzAb Z<|z6<|zb Z (by decide)<|zSr<|zVGveqlI Z Z<|zVzAb Z<|z6<|zb Z (by decide)<|zSr<|zVGveqlI Z Z<|zVzAb Z<|z6<|zb Z (by decide)<|zSr<|zVGveqlI Z Z<|zVzAb Z<|z6<|zb Z (by decide)<|zSr<|zVGveqlI Z Z<|zVzAb Z<|z6<|zy Z (by decide)<|zSr<|zVzMi Z<|zVzMi Z<|zd (srem_spec x y) Z<|z7 (zXi Z Z)<|z7 (zXb Z Z)<|zVzAi Z ?_
  refine zVzAb Z<|z6<|ze<|yh (x := .int _ _) (y := .bool _) Z Z ?_
  rfl
def numR (op : Int) (a b : PArg) : PArg := if 7 ≤ op then truA (cmpR op a.int b.int) else numA (appR op a.int b.int)
def numOk (op : Int) (b : PArg) : Bool := if 7 ≤ op then true else appOk op b.int
theorem snum_spec (op : Int) (a b : PArg) (hop : isNumS op) : AFun prog E 81 [.int .i64 op, .fro 3 ([a, b].map encA)] (.tup [.agg (encA (numR op a b)), .bool (numOk op b)]) := by
 refine zn func81 Z (by decide) Z<|zSr<|zo (cs := [.int .i64 0, .bool false, .int .i64 0]) jc Z Z<|fun i4 => zVzAb Z<|z6<|zc<|zc<|zw (fun j => false) (by kernel_rfl) Z (zr (.rest _))<|zTk 0 Z (zMi Z)<|zTk 1 Z (zMf Z)<|zTk 2 Z (zIM 0 j5 wy Z Z Z Z)<|zTk 3 Z (zFF j8 Z jm Z Z)<|zTk 4 Z (zLi Z5 Z)<|zTk 5 Z (zMf Z)<|zTk 6 Z (zIM 1 j5 wy Z Z Z Z)<|zTk 7 Z (zFF j8 Z jm Z Z)<|zTk 8 Z (zLi Z5 Z)<|zOn 9 Z<|zd (scmp_spec op a.int b.int hop) Z<|z6<|zTk 10 Z (zMu Z)<|zTk 11 Z (zXb Z Z)<|zTk 12 Z (zXb Z Z)<|zTk 13 Z (zAb Z)<|zTk 14 Z (zAb Z)<|zDn<|zSr<|zVzMb Z<|z6<|yb Z (fun c=>?_) (fun c=>?_)
 ·have c : 7 ≤ op := by simpa using c
  refine zSr<|zVzMb Z<|z7 (yn (cps := [(1, [_]), (2, [_])]) (rs := [.int .i64 0, _, _]) pl50 Z Z Z)<|zg wy Z Z Z Z Z Z .head Z<|zVzAb Z<|z6<|ze<|yl (y := .bool _) Z Z ⟨_, .head⟩ jj wy Z ?_
  unfold numR numOk; rw [if_pos c, if_pos c]; rfl
 ·have c : ¬ 7 ≤ op := by simpa using c
  refine zj<|zc<|zw (fun j => false) (by kernel_rfl) Z (zr (.rest _))<|zTk 0 Z (zMi Z)<|zTk 1 Z (zMf Z)<|zTk 2 Z (zIM 0 j5 wy Z Z Z Z)<|zTk 3 Z (zFF j8 Z jm Z Z)<|zTk 4 Z (zLi Z5 Z)<|zTk 5 Z (zMf Z)<|zTk 6 Z (zIM 1 j5 wy Z Z Z Z)<|zTk 7 Z (zFF j8 Z jm Z Z)<|zTk 8 Z (zLi Z5 Z)<|zOn 9 Z<|zd (sapp_spec op a.int b.int hop (by omega)) Z<|z6<|zTk 10 Z (zMu Z)<|zTk 11 Z (zXi Z Z)<|zTk 12 Z (zXb Z Z)<|zTk 13 Z (zAi Z)<|zTk 14 Z (zAb Z)<|zDn<|zSr<|zVzMi Z<|z7 (yn (cps := [(0, [_]), (2, [_])]) (rs := [_, .bool false, _]) pl50 Z Z Z)<|zVzMb Z<|zg wy Z Z Z Z Z Z .head Z<|zVzAb Z<|z6<|ze<|yl (y := .bool _) Z Z ⟨_, .head⟩ jj wy Z ?_
  unfold numR numOk; rw [if_neg c, if_neg c]; rfl
end Go.Proofs.YtoicilchhkndmaaGreatDoor
