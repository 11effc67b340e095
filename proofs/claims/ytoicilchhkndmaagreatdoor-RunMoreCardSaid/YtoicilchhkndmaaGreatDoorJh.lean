/- An instruction of the program's machine. Of programs as they are run. -/
import Derived.Test.YtoicilchhkndmaaGreatDoorJg
set_option linter.unusedVariables false
set_option linter.unusedSimpArgs false
set_option linter.unusedSectionVars false
namespace Go.Proofs.YtoicilchhkndmaaGreatDoor
open Go.Proofs.Tryz
open Go.Proofs Go.Lib Go.Shelf Go.RowKit
theorem ps37_1 : PlacesS prog 37 2 1 1 [.int .i64 0] := ⟨_, ji, jm, zeroValue2, by decide, by decide, by kernel_rfl⟩
variable {E : World}
set_option maxRecDepth 20000
def storedR (rows : List (List Int)) (a i v : Int) : List (List Int) := if placeR rows a i = true then rows.set a.toNat ((rwR rows a).set i.toNat v) else rows
def arrRes (rows : List (List Int)) (op : Int) (a b : PArg) : PArg :=
 if op = 12 then numA (if hasR rows a.arr = true then (rwR rows a.arr).length else 0) else if op = 13 then numA (if placeR rows a.arr b.int = true then vi (rwR rows a.arr) b.int else 0) else numA 0
def arrOk (rows : List (List Int)) (op : Int) (a b : PArg) : Bool := if op = 12 then hasR rows a.arr else placeR rows a.arr b.int
def arrRows (rows : List (List Int)) (op : Int) (a b c : PArg) : List (List Int) := if op = 14 then storedR rows a.arr b.int c.int else rows
theorem len3 {α : Type} {l : List α} (h : l.length = 3) : ∃ a b c, l = [a, b, c] := by
 match l, h with
 | [a, b, c], _ => exact ⟨a, b, c, rfl⟩
theorem sarray_aux (f : PFunc) (iw jv jh jo jt : Nat) (ids : List Nat) (s : PS) (op : Int) (l : List PArg) (hop : op = 12 ∨ op = 13 ∨ op = 14) (hl : l.length = (takesL op).length) (hids : ids.length = s.rows.length) : ACall prog E 80 [.po iw 0, .int .i64 op, .fro 3 (l.map encA)] (sO f iw jv jh jo jt ids s) (fun y O1 => ∃ O, (y = .tup [.agg (encA (arrRes s.rows op ((l[0]?).getD zA) ((l[1]?).getD zA))), .bool (arrOk s.rows op ((l[0]?).getD zA) ((l[1]?).getD zA))] ∧ O = sO f iw jv jh jo jt ids { s with rows := arrRows s.rows op ((l[0]?).getD zA) ((l[1]?).getD zA) ((l[2]?).getD zA) }) ∧ Left O1 O) := by
 refine zn func80 Z (by decide) Z ?_
 rcases hop with rfl | rfl | rfl
 ·obtain ⟨a, rfl⟩ := len1 hl
  refine zSr<|zo (cs := [.int .i64 0, .bool false, .int .i64 0]) jc Z Z<|fun i6 => zVzAb Z<|z6<|zSr<|z7 (yn (cps := [(2, [_])]) (rs := [.int .i64 0, .bool false, _]) pl50 Z Z Z)<|zo (cs := [.int .i64 0, .bool false, .int .i64 0]) jc Z Z<|fun i8 => zg wy Z Z Z Z Z Z .head Z<|z6<|zSr<|zVzAb Z<|z6<|zc<|zSr<|zVzMi Z<|z6<|zi<|zSr<|zVGveqlI Z Z<|zVzAb Z<|z6<|zy Z Z<|zw (fun j => Nat.beq j 13) (by kernel_rfl) Z (zr (.l (.l (.r (.rest _)))))<|zTk 0 Z (zMp Z)<|zTk 1 Z (zq Z)<|zTk 2 Z (zf wz Z Zn (by decide) Z Z)<|zTk 3 Z (zt (c := .po _ _) Zy Z ⟨_, .head⟩ Z)<|zTk 4 Z (zMf Z)<|zTk 5 Z (zIM 0 j5 wy Z Z Z Z)<|zTk 6 Z (zFF j8 Z j6 Z Z)<|zTk 7 Z (zLi je Z)<|zOn 8 Z<|y7 Z (zr (.r (.r (.r (.l (.l (.r (.l (.rest _))))))))) (hlen_spec jh jo ids s.rows a.arr hids) ?_
  rintro r23 O23 ⟨rfl, rfl⟩
  refine z6<|zTk 9 Z (zMu Z)<|zTk 10 Z (zXi Z Z)<|yc (i := 11) Z (by kernel_rfl) (by kernel_rfl) (by kernel_rfl) (by kernel_rfl) (zXb Z Z)<|zTk 12 Z (zf j8 Z jm (by decide) Z Z)<|y8<|zu (i := 13) Z (by kernel_rfl) (by kernel_rfl)<|yd (l := [_]) (new := [_, _, _]) jm Z Z Z Z Z Z .t4 Z Z<|z6<|zu (i := 14) Z (by kernel_rfl) (by kernel_rfl)<|zVzAb Z<|z6<|ya (by kernel_rfl)<|zp (zh (zm .t3))<|zp (zh (zm .t7))<|zp (zh (zm .t4))<|zp (zh (zm .t4))<|zp (zh (zm .t7))<|zp (zh (zm .t5))<|zSr<|z7 (Gv.loadWC jj wy Z ⟨_, .t6⟩ Z)<|zVzMb Z<|zg wy Z Z Z Z Z Z .t7 Z<|zVzAb Z<|z6<|ze<|yl (y := .bool _) Z Z ⟨_, .t7⟩ jj wy Z ?_
  exact ⟨_, ⟨rfl, rfl⟩, left7⟩
 ·obtain ⟨a, b, rfl⟩ := len2 hl
  refine zSr<|zo (cs := [.int .i64 0, .bool false, .int .i64 0]) jc Z Z<|fun i6 => zVzAb Z<|z6<|zSr<|z7 (yn (cps := [(2, [_])]) (rs := [.int .i64 0, .bool false, _]) pl50 Z Z Z)<|zo (cs := [.int .i64 0, .bool false, .int .i64 0]) jc Z Z<|fun i8 => zg wy Z Z Z Z Z Z .head Z<|z6<|zSr<|zVzAb Z<|z6<|zc<|zSr<|zVzMi Z<|z6<|zi<|zSr<|zVGveqlI Z Z<|zVzAb Z<|z6<|zb Z Z<|zSr<|zVGveqlI Z Z<|zVzAb Z<|z6<|zy Z Z<|zw (fun j => Nat.beq j 17) (by kernel_rfl) Z (zr (.l (.l (.r (.rest _)))))<|zTk 0 Z (zMp Z)<|zTk 1 Z (zq Z)<|zTk 2 Z (zf wz Z Zn (by decide) Z Z)<|zTk 3 Z (zt (c := .po _ _) Zy Z ⟨_, .head⟩ Z)<|zTk 4 Z (zMf Z)<|zTk 5 Z (zIM 0 j5 wy Z Z Z Z)<|zTk 6 Z (zFF j8 Z j6 Z Z)<|zTk 7 Z (zLi je Z)<|zTk 8 Z (zMf Z)<|zTk 9 Z (zIM 1 j5 wy Z Z Z Z)<|zTk 10 Z (zFF j8 Z jm Z Z) ?_
  refine zTk 11 Z (zLi Z5 Z)<|zOn 12 Z<|y7 Z (zr (.r (.r (.r (.l (.l (.r (.l (.rest _))))))))) (hload_spec jh jo ids s.rows a.arr b.int hids) ?_
  rintro r42 O42 ⟨rfl, rfl⟩
  refine z6<|zTk 13 Z (zMu Z)<|zTk 14 Z (zXi Z Z)<|yc (i := 15) Z (by kernel_rfl) (by kernel_rfl) (by kernel_rfl) (by kernel_rfl) (zXb Z Z)<|zTk 16 Z (zf j8 Z jm (by decide) Z Z)<|y8<|zu (i := 17) Z (by kernel_rfl) (by kernel_rfl)<|yd (l := [_]) (new := [_, _, _]) jm Z Z Z Z Z Z .t4 Z Z<|z6<|zu (i := 18) Z (by kernel_rfl) (by kernel_rfl)<|zVzAb Z<|z6<|ya (by kernel_rfl)<|zp (zh (zm .t3))<|zp (zh (zm .t7))<|zp (zh (zm .t4))<|zp (zh (zm .t4))<|zp (zh (zm .t7))<|zp (zh (zm .t5))<|zSr<|z7 (Gv.loadWC jj wy Z ⟨_, .t6⟩ Z)<|zVzMb Z<|zg wy Z Z Z Z Z Z .t7 Z<|zVzAb Z<|z6<|ze<|yl (y := .bool _) Z Z ⟨_, .t7⟩ jj wy Z ?_
  exact ⟨_, ⟨rfl, rfl⟩, left7⟩
 ·obtain ⟨a, b, c, rfl⟩ := len3 hl
  refine zSr<|zo (cs := [.int .i64 0, .bool false, .int .i64 0]) jc Z Z<|fun i6 => zVzAb Z<|z6<|zSr<|z7 (yn (cps := [(2, [_])]) (rs := [.int .i64 0, .bool false, _]) pl50 Z Z Z)<|zo (cs := [.int .i64 0, .bool false, .int .i64 0]) jc Z Z<|fun i8 => zg wy Z Z Z Z Z Z .head Z<|z6<|zSr<|zVzAb Z<|z6<|zc<|zSr<|zVzMi Z<|z6<|zi<|zSr<|zVGveqlI Z Z<|zVzAb Z<|z6<|zb Z Z<|zSr<|zVGveqlI Z Z<|zVzAb Z<|z6<|zb Z Z<|zSr<|zVGveqlI Z Z<|zVzAb Z<|z6<|zy Z Z<|zw (fun j => false) (by kernel_rfl) Z (zr (.l (.l (.r (.rest _)))))<|zTk 0 Z (zMp Z)<|zTk 1 Z (zq Z)<|zTk 2 Z (zf wz Z Zn (by decide) Z Z)<|zTk 3 Z (zt (c := .po _ _) Zy Z ⟨_, .head⟩ Z)<|zTk 4 Z (zMf Z)<|zTk 5 Z (zIM 0 j5 wy Z Z Z Z) ?_
  refine zTk 6 Z (zFF j8 Z j6 Z Z)<|zTk 7 Z (zLi je Z)<|zTk 8 Z (zMf Z)<|zTk 9 Z (zIM 1 j5 wy Z Z Z Z)<|zTk 10 Z (zFF j8 Z jm Z Z)<|zTk 11 Z (zLi Z5 Z)<|zTk 12 Z (zMf Z)<|zTk 13 Z (zIM 2 j5 wy Z Z Z Z)<|zTk 14 Z (zFF j8 Z jm Z Z)<|zTk 15 Z (zLi Z5 Z)<|zOn 16 Z<|y7 Z (zr (.r (.r (.r (.l (.l (.r (.l (.rest _))))))))) (hstore_spec jh jo ids s.rows a.arr b.int c.int hids) ?_
  rintro r64 O64 ⟨rfl, rfl⟩
  refine z6<|zTk 17 Z (zAb Z)<|zDn<|zp (zh (zm .t3))<|zp (zh (zm .t7))<|zp (zh (zm .t4))<|zp (zh (zm .t4))<|zp (zh (zm .t7))<|zp (zh (zm .t5))<|zSr<|z7 (Gv.loadWC jj wy Z ⟨_, .t6⟩ Z)<|zVzMb Z<|zg wy Z Z Z Z Z Z .t7 Z<|zVzAb Z<|z6<|ze<|yl (y := .bool _) Z Z ⟨_, .t7⟩ jj wy Z ?_
  exact ⟨_, ⟨rfl, rfl⟩, left7⟩
theorem sarray_spec (f : PFunc) (iw jv jh jo jt : Nat) (ids : List Nat) (s : PS) (op : Int) (l : List PArg) (hop : op = 12 ∨ op = 13 ∨ op = 14) (hl : l.length = (takesL op).length) (hids : ids.length = s.rows.length) : ACall prog E 80 [.po iw 0, .int .i64 op, .fro 3 (l.map encA)] (sO f iw jv jh jo jt ids s) (fun y O => y = .tup [.agg (encA (arrRes s.rows op ((l[0]?).getD zA) ((l[1]?).getD zA))), .bool (arrOk s.rows op ((l[0]?).getD zA) ((l[1]?).getD zA))] ∧ O = sO f iw jv jh jo jt ids { s with rows := arrRows s.rows op ((l[0]?).getD zA) ((l[1]?).getD zA) ((l[2]?).getD zA) }) := (sarray_aux f iw jv jh jo jt ids s op l hop hl hids).sub
def freshA (rows : List (List Int)) (n : Int) : PArg := arrA (if n < 0 ∨ 64 < n then 0 else if 32 ≤ rows.length then 0 else rows.length)
def freshS (s : PS) (n : Int) : PS := if n < 0 ∨ 64 < n then endP s 2 else if 32 ≤ s.rows.length then endP s 3 else { s with rows := s.rows ++ [List.replicate n.toNat 0] }
theorem sfresh_aux (f : PFunc) (iw jv jh jo jt : Nat) (ids : List Nat) (s : PS) (n : Int) (hids : ids.length = s.rows.length) : ACall prog E 79 [.po iw 0, .int .i64 n] (sO f iw jv jh jo jt ids s) (fun y O1 => ∃ O, (∃ jo' ids', ids'.length = (freshS s n).rows.length ∧ y = .agg (encA (freshA s.rows n)) ∧ O = sO f iw jv jh jo' jt ids' (freshS s n)) ∧ Left O1 O) := by
 refine zn func79 Z (by decide) Z<|zSr<|zo (cs := [.int .i64 0, .bool false, .int .i64 0]) jc Z Z<|fun i4 => z6 ?_
 have hm := hmake_spec (E := E) jh jo ids s.rows n hids
 by_cases c : n < 0 ∨ 64 < n
 ·simp only [if_pos c] at hm
  refine zSr<|zVzMp Z<|z7 (zq Z)<|z7 (zf wz Z Zn (by decide) Z Z)<|z7 (zt (c := .po _ _) Zy Z ⟨_, .t1⟩ Z)<|zVzMi Z<|y7 Z (zr (.r (.r (.r (.l (.l (.r (.l (.rest _))))))))) (hm) ?_
  rintro r13 O13 ⟨jo', ids', hids', rfl, rfl⟩
  refine z7 (zMu Z)<|z7 (zXi Z Z)<|z7 (zXi Z Z)<|zVzAi Z<|zVzAi Z<|z6<|zc<|zSr<|zVzMi Z<|z6<|zi<|zSr<|zVGveqlI Z Z<|zVzAb Z<|z6<|zy Z Z<|zp (zh (zm .t2))<|zp (zh (zm .t6))<|zp (zh (zm .t3))<|zp (zh (zm .t3))<|zp (zh (zm .t6))<|zp (zh (zm .t6))<|zRg<|zVzMp Z<|y7 Z (zr (.l (.l (.l (.l (.l (.l (.r (.rest _))))))))) (send_spec f iw jv jh jo' jt ids' s 2) ?_
  rintro r20 O20 ⟨rfl, rfl⟩
  refine z6<|zSr<|zVzMi Z<|z7 (yn (cps := [(2, [_])]) (rs := [.int .i64 0, .bool false, _]) pl50 Z Z Z)<|zg wy Z Z Z Z Z Z .t6 Z<|z6<|ze<|afin.c1 Z ⟨_, .t6⟩ jj wy Z ?_
  exact ⟨_, ⟨jo', ids', by unfold freshS; rw [if_pos c]; exact hids', by unfold freshA arrA; rw [if_pos c]; rfl, by unfold freshS; rw [if_pos c]⟩, left7⟩
 ·simp only [if_neg c] at hm
  by_cases c2 : 32 ≤ s.rows.length
  ·simp only [if_pos c2] at hm
   refine zSr<|zVzMp Z<|z7 (zq Z)<|z7 (zf wz Z Zn (by decide) Z Z)<|z7 (zt (c := .po _ _) Zy Z ⟨_, .t1⟩ Z)<|zVzMi Z<|y7 Z (zr (.r (.r (.r (.l (.l (.r (.l (.rest _))))))))) (hm) ?_
   rintro r13 O13 ⟨jo', ids', hids', rfl, rfl⟩
   refine z7 (zMu Z)<|z7 (zXi Z Z)<|z7 (zXi Z Z)<|zVzAi Z<|zVzAi Z<|z6<|zc<|zSr<|zVzMi Z<|z6<|zi<|zSr<|zVGveqlI Z Z<|zVzAb Z<|z6<|zb Z Z<|zSr<|zVGveqlI Z Z<|zVzAb Z<|z6<|zy Z Z<|zp (zh (zm .t2))<|zp (zh (zm .t6))<|zp (zh (zm .t3))<|zp (zh (zm .t3))<|zp (zh (zm .t6))<|zp (zh (zm .t6))<|zRg<|zVzMp Z<|y7 Z (zr (.l (.l (.l (.l (.l (.l (.r (.rest _))))))))) (send_spec f iw jv jh jo' jt ids' s 3) ?_
   rintro r24 O24 ⟨rfl, rfl⟩
   refine z6<|zSr<|zVzMi Z<|z7 (yn (cps := [(2, [_])]) (rs := [.int .i64 0, .bool false, _]) pl50 Z Z Z)<|zg wy Z Z Z Z Z Z .t6 Z<|z6<|ze<|afin.c1 Z ⟨_, .t6⟩ jj wy Z ?_
   exact ⟨_, ⟨jo', ids', by unfold freshS; rw [if_neg c, if_pos c2]; exact hids', by unfold freshA arrA; rw [if_neg c, if_pos c2]; rfl, by unfold freshS; rw [if_neg c, if_pos c2]⟩, left7⟩
  ·simp only [if_neg c2] at hm
   refine zSr<|zVzMp Z<|z7 (zq Z)<|z7 (zf wz Z Zn (by decide) Z Z)<|z7 (zt (c := .po _ _) Zy Z ⟨_, .t1⟩ Z)<|zVzMi Z<|y7 Z (zr (.r (.r (.r (.l (.l (.r (.l (.rest _))))))))) (hm) ?_
   rintro r13 O13 ⟨jo', ids', hids', rfl, rfl⟩
   refine z7 (zMu Z)<|z7 (zXi Z Z)<|z7 (zXi Z Z)<|zVzAi Z<|zVzAi Z<|z6<|zc<|zSr<|zVzMi Z<|z6<|zi<|zSr<|zVGveqlI Z Z<|zVzAb Z<|z6<|zb Z Z<|zSr<|zVGveqlI Z Z<|zVzAb Z<|z6<|zb Z Z<|zp (zh (zm .t2))<|zp (zh (zm .t6))<|zp (zh (zm .t3))<|zp (zh (zm .t3))<|zp (zh (zm .t6))<|zp (zh (zm .t6))<|zj<|zSr<|zVzMi Z<|z7 (yn (cps := [(2, [_])]) (rs := [.int .i64 0, .bool false, _]) pl50 Z Z Z)<|zg wy Z Z Z Z Z Z .t6 Z<|z6<|ze<|afin.c1 Z ⟨_, .t6⟩ jj wy Z ?_
   exact ⟨_, ⟨jo', ids', by unfold freshS; rw [if_neg c, if_neg c2]; exact hids', by unfold freshA arrA; rw [if_neg c, if_neg c2]; rfl, by unfold freshS; rw [if_neg c, if_neg c2]⟩, left7⟩
theorem sfresh_spec (f : PFunc) (iw jv jh jo jt : Nat) (ids : List Nat) (s : PS) (n : Int) (hids : ids.length = s.rows.length) : ACall prog E 79 [.po iw 0, .int .i64 n] (sO f iw jv jh jo jt ids s) (fun y O => ∃ jo' ids', ids'.length = (freshS s n).rows.length ∧ y = .agg (encA (freshA s.rows n)) ∧ O = sO f iw jv jh jo' jt ids' (freshS s n)) := (sfresh_aux f iw jv jh jo jt ids s n hids).sub
def writeS (s : PS) (n : Int) : PS := if 4096 ≤ s.trace.length then endP s 3 else { s with trace := s.trace ++ [n] }
theorem swrite_spec (f : PFunc) (iw jv jh jo jt : Nat) (ids : List Nat) (s : PS) (n : Int) (ht : s.trace.length ≤ 4096) : ACall prog E 46 [.po iw 0, .int .i64 n] (sO f iw jv jh jo jt ids s) (fun y O => ∃ jt', y = .tup [] ∧ O = sO f iw jv jh jo jt' ids (writeS s n)) := by
 refine zn func46 Z (by decide) Z<|zc<|zSr<|zVzMp Z<|z7 (zq Z)<|z7 (zf wz Z j3 (by decide) Z Z)<|z7 (zf j4 Z Z0 (by decide) Z Z)<|z7 (zt (c := .own _ _) Zg Z ⟨_, .head⟩ Z)<|z7 (Gv.lenO ji Z)<|z7 (Gv.geq Z Z)<|z6<|y9 Z (fun c=>?_) (fun c=>?_)
 ·have c : 4096 ≤ s.trace.length := by omega
  refine zSr<|zVzMp Z<|y7 Z (zr (.l (.l (.l (.l (.l (.l (.rest _)))))))) (send_spec f iw jv jh jo jt ids s 3) ?_
  rintro r12 O12 ⟨rfl, rfl⟩
  refine z6<|ze<|yp ?_
  exact ⟨jt, rfl, by unfold writeS; rw [if_pos c]; exact List.append_nil _⟩
 ·have c : ¬ 4096 ≤ s.trace.length := by omega
  refine zj<|zRg<|zVzMp Z<|zVzMp Z<|z7 (zq Z)<|z7 (zf wz Z j3 (by decide) Z Z)<|z7 (zf j4 Z Z0 (by decide) Z Z)<|z7 (zt (c := .own _ _) Zg Z ⟨_, .head⟩ Z)<|zVzMi Z<|yi (rows := [[_]]) ps37_1 Z Z Z Z Z<|yo (k := 1) ji type2 Z Z Z Z Z (fun _ => .t4) (by rw [cI_len]; omega) (by decide) Z (by show (_ + 1) * 8 ≤ _; omega) (by show _ + 1 ≤ _; omega)<|fun i21 => z7 (zq Z)<|z7 (zf wz Z j3 (by decide) Z Z)<|z7 (zf j4 Z Z0 (by decide) Z Z)<|yd (l := [_]) (new := [_, _, _, _, _, _, _, _, _, _, _, _, _, _, _, _, _, _, _, _, _]) Z0 Z Z Z Z Z Z .head Z Z<|z6<|yp ?_
  exact ⟨i21, rfl, by unfold writeS; rw [if_neg c]; unfold sO sR sCe; rw [← cI_app, q8]; rfl⟩
def mkV (rows : List (List Int)) (op num : Int) (a b : PArg) : PArg :=
 if op = 0 then numA num else if op = 1 ∨ op = 25 ∨ op = 26 then a else if op = 10 then truA (!a.b) else if op = 11 then truA (a.b && b.b) else if op = 16 then arrA (-1)
 else if op = 15 then freshA rows a.int else if op = 12 ∨ op = 13 ∨ op = 14 then arrRes rows op a b else numR op a b
def mkOk (rows : List (List Int)) (op : Int) (a b : PArg) : Bool :=
 if op = 12 ∨ op = 13 ∨ op = 14 then arrOk rows op a b else if 2 ≤ op ∧ op ≤ 9 then numOk op b else true
def mkS (s : PS) (op : Int) (a b c : PArg) : PS := if op = 15 then freshS s a.int else if op = 14 then { s with rows := arrRows s.rows 14 a b c } else s
theorem op19 {op : Int} (h : 0 ≤ op ∧ op ≤ 26) (h1 : ¬ (18 ≤ op ∧ op ≤ 24)) (h2 : op ≠ 17) : op = 0 ∨ op = 1 ∨ op = 2 ∨ op = 3 ∨ op = 4 ∨ op = 5 ∨ op = 6 ∨ op = 7 ∨ op = 8 ∨ op = 9 ∨ op = 10 ∨ op = 11 ∨ op = 12 ∨ op = 13 ∨ op = 14 ∨ op = 15 ∨ op = 16 ∨ op = 25 ∨ op = 26 := by omega
set_option maxHeartbeats 16000000 in
theorem smake_aux (f : PFunc) (iw jv jh jo jt : Nat) (ids : List Nat) (s : PS) (op dst num : Int) (args : List Int) (l : List PArg) (hop : 0 ≤ op ∧ op ≤ 26) (hop1 : ¬ (18 ≤ op ∧ op ≤ 24)) (hop2 : op ≠ 17) (hl : l.length = (takesL op).length) (hids : ids.length = s.rows.length) : ACall prog E 47 [.po iw 0, .agg (encInst ⟨op, dst, args, num⟩), .fro 3 (l.map encA)] (sO f iw jv jh jo jt ids s) (fun y O1 => ∃ O, (∃ jo' ids', ids'.length = (mkS s op ((l[0]?).getD zA) ((l[1]?).getD zA) ((l[2]?).getD zA)).rows.length ∧ y = .tup [.agg (encA (mkV s.rows op num ((l[0]?).getD zA) ((l[1]?).getD zA))), .bool (mkOk s.rows op ((l[0]?).getD zA) ((l[1]?).getD zA))] ∧ O = sO f iw jv jh jo' jt ids' (mkS s op ((l[0]?).getD zA) ((l[1]?).getD zA) ((l[2]?).getD zA))) ∧ Left O1 O) := by
 refine zn func47 Z (by decide) Z ?_
 rcases op19 hop hop1 hop2 with rfl | rfl | rfl | rfl | rfl | rfl | rfl | rfl | rfl | rfl | rfl | rfl | rfl | rfl | rfl | rfl | rfl | rfl | rfl
 ·refine zSr<|zz (cs := _) Z Z Z<|zo (cs := [.int .i64 0, .bool false, .int .i64 0]) jc Z Z<|fun i6 => zVzAb Z<|z6<|zc<|zSr<|zVzFF j2 Z jg Z Z<|zVzLi jl Z<|z6<|zi<|zSr<|zVGveqlI Z Z<|zVzAb Z<|z6<|zy Z Z<|zSr<|zVzFF j2 Z jm Z Z<|zVzLi Z5 Z<|z7 (yn (cps := [(0, [_]), (2, [_])]) (rs := [_, .bool false, _]) pl50 Z Z Z)<|zg wy Z Z Z Z Z Z .head Z<|zVzAb Z<|z6<|ze<|yl (y := .bool _) Z Z ⟨_, .head⟩ jj wy Z ?_
  exact ⟨_, ⟨jo, ids, hids, rfl, rfl⟩, by first | exact left8 | exact left7⟩
 ·obtain ⟨a, rfl⟩ := len1 hl
  refine zSr<|zz (cs := _) Z Z Z<|zo (cs := [.int .i64 0, .bool false, .int .i64 0]) jc Z Z<|fun i6 => zVzAb Z<|z6<|zc<|zSr<|zVzFF j2 Z jg Z Z<|zVzLi jl Z<|z6<|zi<|zSr<|zVGveqlI Z Z<|zVzAb Z<|z6<|zb Z Z<|zc<|zSr<|zVGveqlI Z Z<|zVzAb Z<|z6<|zy Z Z<|zj<|zy Z Z<|zSr<|zVzMf Z<|z7 (zIM 0 j5 wy Z Z Z Z)<|zVGvloadWF jj wy Z Z<|zg wy Z Z Z Z Z Z .head Z<|zVzAb Z<|z6<|ze<|yl (y := .bool _) Z Z ⟨_, .head⟩ jj wy Z ?_
  exact ⟨_, ⟨jo, ids, hids, rfl, rfl⟩, by first | exact left8 | exact left7⟩
 ·obtain ⟨a, b, rfl⟩ := len2 hl
  refine zSr<|zz (cs := _) Z Z Z<|zo (cs := [.int .i64 0, .bool false, .int .i64 0]) jc Z Z<|fun i6 => zVzAb Z<|z6<|zc<|zSr<|zVzFF j2 Z jg Z Z<|zVzLi jl Z<|z6<|zi<|zSr<|zVGveqlI Z Z<|zVzAb Z<|z6<|zb Z Z<|zc<|zSr<|zVGveqlI Z Z<|zVzAb Z<|z6<|zb Z Z<|zSr<|zVGveqlI Z Z<|zVzAb Z<|z6<|zb Z Z<|zRg<|zVGveqlI Z Z<|zVzAb Z<|z6<|zb Z Z<|zSr<|zVGveqlI Z Z<|zVzAb Z<|z6<|zb Z Z<|zSr<|zVGveqlI Z Z<|zVzAb Z ?_
  refine z6<|zb Z Z<|zSr<|zVGveqlI Z Z<|zVzAb Z<|z6<|zb Z Z<|zSr<|zVGveqlI Z Z<|zVzAb Z<|z6<|zb Z Z<|zc<|zSr<|zVGveqlI Z Z<|zVzAb Z<|z6<|zb Z Z<|zSr<|zVGveqlI Z Z<|zVzAb Z<|z6<|zb Z Z<|zRg<|zVGveqlI Z Z<|zVzAb Z<|z6<|zb Z Z<|zj<|zSr<|zVzFF j2 Z jg Z Z<|zVzLi jl Z<|zVzMf Z<|zd (snum_spec 2 a b (by unfold isNumS; decide)) Z<|z7 (yt (v := .agg _) Z Z)<|z7 (zXb Z Z)<|zg wy Z Z Z Z Z Z .head Z<|zVzAb Z<|z6<|ze<|yl (y := .bool _) Z Z ⟨_, .head⟩ jj wy Z ?_
  exact ⟨_, ⟨jo, ids, hids, rfl, rfl⟩, by first | exact left8 | exact left7⟩
 ·obtain ⟨a, b, rfl⟩ := len2 hl
  refine zSr<|zz (cs := _) Z Z Z<|zo (cs := [.int .i64 0, .bool false, .int .i64 0]) jc Z Z<|fun i6 => zVzAb Z<|z6<|zc<|zSr<|zVzFF j2 Z jg Z Z<|zVzLi jl Z<|z6<|zi<|zSr<|zVGveqlI Z Z<|zVzAb Z<|z6<|zb Z Z<|zc<|zSr<|zVGveqlI Z Z<|zVzAb Z<|z6<|zb Z Z<|zSr<|zVGveqlI Z Z<|zVzAb Z<|z6<|zb Z Z<|zRg<|zVGveqlI Z Z<|zVzAb Z<|z6<|zb Z Z<|zSr<|zVGveqlI Z Z<|zVzAb Z<|z6<|zb Z Z<|zSr<|zVGveqlI Z Z<|zVzAb Z ?_
  refine z6<|zb Z Z<|zSr<|zVGveqlI Z Z<|zVzAb Z<|z6<|zb Z Z<|zSr<|zVGveqlI Z Z<|zVzAb Z<|z6<|zb Z Z<|zc<|zSr<|zVGveqlI Z Z<|zVzAb Z<|z6<|zb Z Z<|zSr<|zVGveqlI Z Z<|zVzAb Z<|z6<|zb Z Z<|zRg<|zVGveqlI Z Z<|zVzAb Z<|z6<|zb Z Z<|zj<|zSr<|zVzFF j2 Z jg Z Z<|zVzLi jl Z<|zVzMf Z<|zd (snum_spec 3 a b (by unfold isNumS; decide)) Z<|z7 (yt (v := .agg _) Z Z)<|z7 (zXb Z Z)<|zg wy Z Z Z Z Z Z .head Z<|zVzAb Z<|z6<|ze<|yl (y := .bool _) Z Z ⟨_, .head⟩ jj wy Z ?_
  exact ⟨_, ⟨jo, ids, hids, rfl, rfl⟩, by first | exact left8 | exact left7⟩
 ·obtain ⟨a, b, rfl⟩ := len2 hl
  refine zSr<|zz (cs := _) Z Z Z<|zo (cs := [.int .i64 0, .bool false, .int .i64 0]) jc Z Z<|fun i6 => zVzAb Z<|z6<|zc<|zSr<|zVzFF j2 Z jg Z Z<|zVzLi jl Z<|z6<|zi<|zSr<|zVGveqlI Z Z<|zVzAb Z<|z6<|zb Z Z<|zc<|zSr<|zVGveqlI Z Z<|zVzAb Z<|z6<|zb Z Z<|zSr<|zVGveqlI Z Z<|zVzAb Z<|z6<|zb Z Z<|zRg<|zVGveqlI Z Z<|zVzAb Z<|z6<|zb Z Z<|zSr<|zVGveqlI Z Z<|zVzAb Z<|z6<|zb Z Z<|zSr<|zVGveqlI Z Z<|zVzAb Z ?_
  refine z6<|zb Z Z<|zSr<|zVGveqlI Z Z<|zVzAb Z<|z6<|zb Z Z<|zSr<|zVGveqlI Z Z<|zVzAb Z<|z6<|zb Z Z<|zc<|zSr<|zVGveqlI Z Z<|zVzAb Z<|z6<|zb Z Z<|zSr<|zVGveqlI Z Z<|zVzAb Z<|z6<|zb Z Z<|zRg<|zVGveqlI Z Z<|zVzAb Z<|z6<|zb Z Z<|zj<|zSr<|zVzFF j2 Z jg Z Z<|zVzLi jl Z<|zVzMf Z<|zd (snum_spec 4 a b (by unfold isNumS; decide)) Z<|z7 (yt (v := .agg _) Z Z)<|z7 (zXb Z Z)<|zg wy Z Z Z Z Z Z .head Z<|zVzAb Z<|z6<|ze<|yl (y := .bool _) Z Z ⟨_, .head⟩ jj wy Z ?_
  exact ⟨_, ⟨jo, ids, hids, rfl, rfl⟩, by first | exact left8 | exact left7⟩
 ·obtain ⟨a, b, rfl⟩ := len2 hl
  refine zSr<|zz (cs := _) Z Z Z<|zo (cs := [.int .i64 0, .bool false, .int .i64 0]) jc Z Z<|fun i6 => zVzAb Z<|z6<|zc<|zSr<|zVzFF j2 Z jg Z Z<|zVzLi jl Z<|z6<|zi<|zSr<|zVGveqlI Z Z<|zVzAb Z<|z6<|zb Z Z<|zc<|zSr<|zVGveqlI Z Z<|zVzAb Z<|z6<|zb Z Z<|zSr<|zVGveqlI Z Z<|zVzAb Z<|z6<|zb Z Z<|zRg<|zVGveqlI Z Z<|zVzAb Z<|z6<|zb Z Z<|zSr<|zVGveqlI Z Z<|zVzAb Z<|z6<|zb Z Z<|zSr<|zVGveqlI Z Z<|zVzAb Z ?_
  refine z6<|zb Z Z<|zSr<|zVGveqlI Z Z<|zVzAb Z<|z6<|zb Z Z<|zSr<|zVGveqlI Z Z<|zVzAb Z<|z6<|zb Z Z<|zc<|zSr<|zVGveqlI Z Z<|zVzAb Z<|z6<|zb Z Z<|zSr<|zVGveqlI Z Z<|zVzAb Z<|z6<|zb Z Z<|zRg<|zVGveqlI Z Z<|zVzAb Z<|z6<|zb Z Z<|zj<|zSr<|zVzFF j2 Z jg Z Z<|zVzLi jl Z<|zVzMf Z<|zd (snum_spec 5 a b (by unfold isNumS; decide)) Z<|z7 (yt (v := .agg _) Z Z)<|z7 (zXb Z Z)<|zg wy Z Z Z Z Z Z .head Z<|zVzAb Z<|z6<|ze<|yl (y := .bool _) Z Z ⟨_, .head⟩ jj wy Z ?_
  exact ⟨_, ⟨jo, ids, hids, rfl, rfl⟩, by first | exact left8 | exact left7⟩
 ·obtain ⟨a, b, rfl⟩ := len2 hl
  refine zSr<|zz (cs := _) Z Z Z<|zo (cs := [.int .i64 0, .bool false, .int .i64 0]) jc Z Z<|fun i6 => zVzAb Z<|z6<|zc<|zSr<|zVzFF j2 Z jg Z Z<|zVzLi jl Z<|z6<|zi<|zSr<|zVGveqlI Z Z<|zVzAb Z<|z6<|zb Z Z<|zc<|zSr<|zVGveqlI Z Z<|zVzAb Z<|z6<|zb Z Z<|zSr<|zVGveqlI Z Z<|zVzAb Z<|z6<|zb Z Z<|zRg<|zVGveqlI Z Z<|zVzAb Z<|z6<|zb Z Z<|zSr<|zVGveqlI Z Z<|zVzAb Z<|z6<|zb Z Z<|zSr<|zVGveqlI Z Z<|zVzAb Z ?_
  refine z6<|zb Z Z<|zSr<|zVGveqlI Z Z<|zVzAb Z<|z6<|zb Z Z<|zSr<|zVGveqlI Z Z<|zVzAb Z<|z6<|zb Z Z<|zc<|zSr<|zVGveqlI Z Z<|zVzAb Z<|z6<|zb Z Z<|zSr<|zVGveqlI Z Z<|zVzAb Z<|z6<|zb Z Z<|zRg<|zVGveqlI Z Z<|zVzAb Z<|z6<|zb Z Z<|zj<|zSr<|zVzFF j2 Z jg Z Z<|zVzLi jl Z<|zVzMf Z<|zd (snum_spec 6 a b (by unfold isNumS; decide)) Z<|z7 (yt (v := .agg _) Z Z)<|z7 (zXb Z Z)<|zg wy Z Z Z Z Z Z .head Z<|zVzAb Z<|z6<|ze<|yl (y := .bool _) Z Z ⟨_, .head⟩ jj wy Z ?_
  exact ⟨_, ⟨jo, ids, hids, rfl, rfl⟩, by first | exact left8 | exact left7⟩
 ·obtain ⟨a, b, rfl⟩ := len2 hl
  refine zSr<|zz (cs := _) Z Z Z<|zo (cs := [.int .i64 0, .bool false, .int .i64 0]) jc Z Z<|fun i6 => zVzAb Z<|z6<|zc<|zSr<|zVzFF j2 Z jg Z Z<|zVzLi jl Z<|z6<|zi<|zSr<|zVGveqlI Z Z<|zVzAb Z<|z6<|zb Z Z<|zc<|zSr<|zVGveqlI Z Z<|zVzAb Z<|z6<|zb Z Z<|zSr<|zVGveqlI Z Z<|zVzAb Z<|z6<|zb Z Z<|zRg<|zVGveqlI Z Z<|zVzAb Z<|z6<|zb Z Z<|zSr<|zVGveqlI Z Z<|zVzAb Z<|z6<|zb Z Z<|zSr<|zVGveqlI Z Z<|zVzAb Z ?_
  refine z6<|zb Z Z<|zSr<|zVGveqlI Z Z<|zVzAb Z<|z6<|zb Z Z<|zSr<|zVGveqlI Z Z<|zVzAb Z<|z6<|zb Z Z<|zc<|zSr<|zVGveqlI Z Z<|zVzAb Z<|z6<|zb Z Z<|zSr<|zVGveqlI Z Z<|zVzAb Z<|z6<|zb Z Z<|zRg<|zVGveqlI Z Z<|zVzAb Z<|z6<|zb Z Z<|zj<|zSr<|zVzFF j2 Z jg Z Z<|zVzLi jl Z<|zVzMf Z<|zd (snum_spec 7 a b (by unfold isNumS; decide)) Z<|z7 (yt (v := .agg _) Z Z)<|z7 (zXb Z Z)<|zg wy Z Z Z Z Z Z .head Z<|zVzAb Z<|z6<|ze<|yl (y := .bool _) Z Z ⟨_, .head⟩ jj wy Z ?_
  exact ⟨_, ⟨jo, ids, hids, rfl, rfl⟩, by first | exact left8 | exact left7⟩
 ·obtain ⟨a, b, rfl⟩ := len2 hl
  refine zSr<|zz (cs := _) Z Z Z<|zo (cs := [.int .i64 0, .bool false, .int .i64 0]) jc Z Z<|fun i6 => zVzAb Z<|z6<|zc<|zSr<|zVzFF j2 Z jg Z Z<|zVzLi jl Z<|z6<|zi<|zSr<|zVGveqlI Z Z<|zVzAb Z<|z6<|zb Z Z<|zc<|zSr<|zVGveqlI Z Z<|zVzAb Z<|z6<|zb Z Z<|zSr<|zVGveqlI Z Z<|zVzAb Z<|z6<|zb Z Z<|zRg<|zVGveqlI Z Z<|zVzAb Z<|z6<|zb Z Z<|zSr<|zVGveqlI Z Z<|zVzAb Z<|z6<|zb Z Z<|zSr<|zVGveqlI Z Z<|zVzAb Z ?_
  refine z6<|zb Z Z<|zSr<|zVGveqlI Z Z<|zVzAb Z<|z6<|zb Z Z<|zSr<|zVGveqlI Z Z<|zVzAb Z<|z6<|zb Z Z<|zc<|zSr<|zVGveqlI Z Z<|zVzAb Z<|z6<|zb Z Z<|zSr<|zVGveqlI Z Z<|zVzAb Z<|z6<|zb Z Z<|zRg<|zVGveqlI Z Z<|zVzAb Z<|z6<|zb Z Z<|zj<|zSr<|zVzFF j2 Z jg Z Z<|zVzLi jl Z<|zVzMf Z<|zd (snum_spec 8 a b (by unfold isNumS; decide)) Z<|z7 (yt (v := .agg _) Z Z)<|z7 (zXb Z Z)<|zg wy Z Z Z Z Z Z .head Z<|zVzAb Z<|z6<|ze<|yl (y := .bool _) Z Z ⟨_, .head⟩ jj wy Z ?_
  exact ⟨_, ⟨jo, ids, hids, rfl, rfl⟩, by first | exact left8 | exact left7⟩
 ·obtain ⟨a, b, rfl⟩ := len2 hl
  refine zSr<|zz (cs := _) Z Z Z<|zo (cs := [.int .i64 0, .bool false, .int .i64 0]) jc Z Z<|fun i6 => zVzAb Z<|z6<|zc<|zSr<|zVzFF j2 Z jg Z Z<|zVzLi jl Z<|z6<|zi<|zSr<|zVGveqlI Z Z<|zVzAb Z<|z6<|zb Z Z<|zc<|zSr<|zVGveqlI Z Z<|zVzAb Z<|z6<|zb Z Z<|zSr<|zVGveqlI Z Z<|zVzAb Z<|z6<|zb Z Z<|zRg<|zVGveqlI Z Z<|zVzAb Z<|z6<|zb Z Z<|zSr<|zVGveqlI Z Z<|zVzAb Z<|z6<|zb Z Z<|zSr<|zVGveqlI Z Z<|zVzAb Z ?_
  refine z6<|zb Z Z<|zSr<|zVGveqlI Z Z<|zVzAb Z<|z6<|zb Z Z<|zSr<|zVGveqlI Z Z<|zVzAb Z<|z6<|zb Z Z<|zc<|zSr<|zVGveqlI Z Z<|zVzAb Z<|z6<|zb Z Z<|zSr<|zVGveqlI Z Z<|zVzAb Z<|z6<|zb Z Z<|zRg<|zVGveqlI Z Z<|zVzAb Z<|z6<|zb Z Z<|zj<|zSr<|zVzFF j2 Z jg Z Z<|zVzLi jl Z<|zVzMf Z<|zd (snum_spec 9 a b (by unfold isNumS; decide)) Z<|z7 (yt (v := .agg _) Z Z)<|z7 (zXb Z Z)<|zg wy Z Z Z Z Z Z .head Z<|zVzAb Z<|z6<|ze<|yl (y := .bool _) Z Z ⟨_, .head⟩ jj wy Z ?_
  exact ⟨_, ⟨jo, ids, hids, rfl, rfl⟩, by first | exact left8 | exact left7⟩
 ·obtain ⟨a, rfl⟩ := len1 hl
  refine zSr<|zz (cs := _) Z Z Z<|zo (cs := [.int .i64 0, .bool false, .int .i64 0]) jc Z Z<|fun i6 => zVzAb Z<|z6<|zc<|zSr<|zVzFF j2 Z jg Z Z<|zVzLi jl Z<|z6<|zi<|zSr<|zVGveqlI Z Z<|zVzAb Z<|z6<|zb Z Z<|zc<|zSr<|zVGveqlI Z Z<|zVzAb Z<|z6<|zb Z Z<|zSr<|zVGveqlI Z Z<|zVzAb Z<|z6<|zb Z Z<|zRg<|zVGveqlI Z Z<|zVzAb Z<|z6<|zb Z Z<|zSr<|zVGveqlI Z Z<|zVzAb Z<|z6<|zy Z Z<|zSr<|zVzMf Z<|z7 (zIM 0 j5 wy Z Z Z Z) ?_
  refine zVzFF j8 Z Zj Z Z<|z7 (Gv.load1F (c := .bool _) Y3 Z)<|zVGvnot Z<|z7 (yn (cps := [(1, [_]), (2, [_])]) (rs := [.int .i64 0, _, _]) pl50 Z Z Z)<|zg wy Z Z Z Z Z Z .head Z<|zVzAb Z<|z6<|ze<|yl (y := .bool _) Z Z ⟨_, .head⟩ jj wy Z ?_
  exact ⟨_, ⟨jo, ids, hids, rfl, rfl⟩, by first | exact left8 | exact left7⟩
 ·obtain ⟨a, b, rfl⟩ := len2 hl
  refine zSr<|zz (cs := _) Z Z Z<|zo (cs := [.int .i64 0, .bool false, .int .i64 0]) jc Z Z<|fun i6 => zVzAb Z<|z6<|zc<|zSr<|zVzFF j2 Z jg Z Z<|zVzLi jl Z<|z6<|zi<|zSr<|zVGveqlI Z Z<|zVzAb Z<|z6<|zb Z Z<|zc<|zSr<|zVGveqlI Z Z<|zVzAb Z<|z6<|zb Z Z<|zSr<|zVGveqlI Z Z<|zVzAb Z<|z6<|zb Z Z<|zRg<|zVGveqlI Z Z<|zVzAb Z<|z6<|zb Z Z<|zSr<|zVGveqlI Z Z<|zVzAb Z<|z6<|zb Z Z<|zSr<|zVGveqlI Z Z<|zVzAb Z ?_
  refine z6<|zy Z Z<|zSr<|zVzMf Z<|z7 (zIM 0 j5 wy Z Z Z Z)<|zVzFF j8 Z Zj Z Z<|z7 (Gv.load1F (c := .bool _) Y3 Z)<|zVzMb Z<|zx (s := 36) Z (fun cb=>?_) (fun cb=>?_)
  ·refine za Z Z cb<|zVzMf Z<|za Z Z cb<|z7 (zIM 1 j5 wy Z Z Z Z)<|za Z Z cb<|zVzFF j8 Z Zj Z Z<|za Z Z cb<|z7 (Gv.load1F (c := .bool _) Y3 Z)<|zVzPt Z cb Z<|z7 (yn (cps := [(1, [_]), (2, [_])]) (rs := [.int .i64 0, _, _]) pl50 Z Z Z)<|zg wy Z Z Z Z Z Z .head Z<|zVzAb Z<|z6<|ze<|yl (y := .bool _) Z Z ⟨_, .head⟩ jj wy Z ?_
   exact ⟨_, ⟨jo, ids, hids, by have h : a.b = true := cb; show _ = AV.tup [.agg (encA (truA (a.b && b.b))), .bool true]; rw [h]; rfl, rfl⟩, by first | exact left8 | exact left7⟩
  ·refine z8 Z Z cb<|z8 Z Z cb<|z8 Z Z cb<|z8 Z Z cb<|zVzPf Z cb Z<|z7 (yn (cps := [(1, [_]), (2, [_])]) (rs := [.int .i64 0, _, _]) pl50 Z Z Z)<|zg wy Z Z Z Z Z Z .head Z<|zVzAb Z<|z6<|ze<|yl (y := .bool _) Z Z ⟨_, .head⟩ jj wy Z ?_
   exact ⟨_, ⟨jo, ids, hids, by have h : a.b = false := cb; show _ = AV.tup [.agg (encA (truA (a.b && b.b))), .bool true]; rw [h]; rfl, rfl⟩, by first | exact left8 | exact left7⟩
 ·obtain ⟨a, rfl⟩ := len1 hl
  refine zSr<|zz (cs := _) Z Z Z<|zo (cs := [.int .i64 0, .bool false, .int .i64 0]) jc Z Z<|fun i6 => zVzAb Z<|z6<|zc<|zSr<|zVzFF j2 Z jg Z Z<|zVzLi jl Z<|z6<|zi<|zSr<|zVGveqlI Z Z<|zVzAb Z<|z6<|zb Z Z<|zc<|zSr<|zVGveqlI Z Z<|zVzAb Z<|z6<|zb Z Z<|zSr<|zVGveqlI Z Z<|zVzAb Z<|z6<|zb Z Z<|zRg<|zVGveqlI Z Z<|zVzAb Z<|z6<|zb Z Z<|zSr<|zVGveqlI Z Z<|zVzAb Z<|z6<|zb Z Z<|zSr<|zVGveqlI Z Z<|zVzAb Z ?_
  refine z6<|zb Z Z<|zSr<|zVGveqlI Z Z<|zVzAb Z<|z6<|zb Z Z<|zSr<|zVGveqlI Z Z<|zVzAb Z<|z6<|zb Z Z<|zc<|zSr<|zVGveqlI Z Z<|zVzAb Z<|z6<|zy Z Z<|zj<|zy Z Z<|zSr<|zVzMp Z<|zVzFF j2 Z jg Z Z<|zVzLi jl Z<|zVzMf Z<|y7 Z (zr (.r (.l (.l (.l (.l (.l (.l (.rest _))))))))) (sarray_spec f iw jv jh jo jt ids s 12 _ (by decide) hl hids) ?_
  rintro r62 O62 ⟨rfl, rfl⟩
  refine z7 (yt (v := .agg _) Z Z)<|z7 (zXb Z Z)<|zg wy Z Z Z Z Z Z .t6 Z<|zVzAb Z<|z6<|ze<|yl (y := .bool _) Z Z ⟨_, .t6⟩ jj wy Z ?_
  exact ⟨_, ⟨jo, ids, by first | exact hids | (show ids.length = (if placeR s.rows a.arr b.int = true then s.rows.set _ _ else s.rows).length; split <;> simp [hids]), rfl, rfl⟩, by first | exact left8 | exact left7⟩
 ·obtain ⟨a, b, rfl⟩ := len2 hl
  refine zSr<|zz (cs := _) Z Z Z<|zo (cs := [.int .i64 0, .bool false, .int .i64 0]) jc Z Z<|fun i6 => zVzAb Z<|z6<|zc<|zSr<|zVzFF j2 Z jg Z Z<|zVzLi jl Z<|z6<|zi<|zSr<|zVGveqlI Z Z<|zVzAb Z<|z6<|zb Z Z<|zc<|zSr<|zVGveqlI Z Z<|zVzAb Z<|z6<|zb Z Z<|zSr<|zVGveqlI Z Z<|zVzAb Z<|z6<|zb Z Z<|zRg<|zVGveqlI Z Z<|zVzAb Z<|z6<|zb Z Z<|zSr<|zVGveqlI Z Z<|zVzAb Z<|z6<|zb Z Z<|zSr<|zVGveqlI Z Z<|zVzAb Z ?_
  refine z6<|zb Z Z<|zSr<|zVGveqlI Z Z<|zVzAb Z<|z6<|zb Z Z<|zSr<|zVGveqlI Z Z<|zVzAb Z<|z6<|zb Z Z<|zc<|zSr<|zVGveqlI Z Z<|zVzAb Z<|z6<|zb Z Z<|zSr<|zVGveqlI Z Z<|zVzAb Z<|z6<|zy Z Z<|zj<|zy Z Z<|zSr<|zVzMp Z<|zVzFF j2 Z jg Z Z<|zVzLi jl Z<|zVzMf Z<|y7 Z (zr (.r (.l (.l (.l (.l (.l (.l (.rest _))))))))) (sarray_spec f iw jv jh jo jt ids s 13 _ (by decide) hl hids) ?_
  rintro r62 O62 ⟨rfl, rfl⟩
  refine z7 (yt (v := .agg _) Z Z)<|z7 (zXb Z Z)<|zg wy Z Z Z Z Z Z .t6 Z<|zVzAb Z<|z6<|ze<|yl (y := .bool _) Z Z ⟨_, .t6⟩ jj wy Z ?_
  exact ⟨_, ⟨jo, ids, by first | exact hids | (show ids.length = (if placeR s.rows a.arr b.int = true then s.rows.set _ _ else s.rows).length; split <;> simp [hids]), rfl, rfl⟩, by first | exact left8 | exact left7⟩
 ·obtain ⟨a, b, c, rfl⟩ := len3 hl
  refine zSr<|zz (cs := _) Z Z Z<|zo (cs := [.int .i64 0, .bool false, .int .i64 0]) jc Z Z<|fun i6 => zVzAb Z<|z6<|zc<|zSr<|zVzFF j2 Z jg Z Z<|zVzLi jl Z<|z6<|zi<|zSr<|zVGveqlI Z Z<|zVzAb Z<|z6<|zb Z Z<|zc<|zSr<|zVGveqlI Z Z<|zVzAb Z<|z6<|zb Z Z<|zSr<|zVGveqlI Z Z<|zVzAb Z<|z6<|zb Z Z<|zRg<|zVGveqlI Z Z<|zVzAb Z<|z6<|zb Z Z<|zSr<|zVGveqlI Z Z<|zVzAb Z<|z6<|zb Z Z<|zSr<|zVGveqlI Z Z<|zVzAb Z ?_
  refine z6<|zb Z Z<|zSr<|zVGveqlI Z Z<|zVzAb Z<|z6<|zb Z Z<|zSr<|zVGveqlI Z Z<|zVzAb Z<|z6<|zb Z Z<|zc<|zSr<|zVGveqlI Z Z<|zVzAb Z<|z6<|zb Z Z<|zSr<|zVGveqlI Z Z<|zVzAb Z<|z6<|zb Z Z<|zRg<|zVGveqlI Z Z<|zVzAb Z<|z6<|zy Z Z<|zSr<|zVzMp Z<|zVzFF j2 Z jg Z Z<|zVzLi jl Z<|zVzMf Z<|y7 Z (zr (.r (.l (.l (.l (.l (.l (.l (.rest _))))))))) (sarray_spec f iw jv jh jo jt ids s 14 _ (by decide) hl hids) ?_
  rintro r62 O62 ⟨rfl, rfl⟩
  refine z7 (yt (v := .agg _) Z Z)<|z7 (zXb Z Z)<|zg wy Z Z Z Z Z Z .t6 Z<|zVzAb Z<|z6<|ze<|yl (y := .bool _) Z Z ⟨_, .t6⟩ jj wy Z ?_
  exact ⟨_, ⟨jo, ids, by first | exact hids | (show ids.length = (if placeR s.rows a.arr b.int = true then s.rows.set _ _ else s.rows).length; split <;> simp [hids]), rfl, rfl⟩, by first | exact left8 | exact left7⟩
 ·obtain ⟨a, rfl⟩ := len1 hl
  refine zSr<|zz (cs := _) Z Z Z<|zo (cs := [.int .i64 0, .bool false, .int .i64 0]) jc Z Z<|fun i6 => zVzAb Z<|z6<|zc<|zSr<|zVzFF j2 Z jg Z Z<|zVzLi jl Z<|z6<|zi<|zSr<|zVGveqlI Z Z<|zVzAb Z<|z6<|zb Z Z<|zc<|zSr<|zVGveqlI Z Z<|zVzAb Z<|z6<|zb Z Z<|zSr<|zVGveqlI Z Z<|zVzAb Z<|z6<|zb Z Z<|zRg<|zVGveqlI Z Z<|zVzAb Z<|z6<|zb Z Z<|zSr<|zVGveqlI Z Z<|zVzAb Z<|z6<|zb Z Z<|zSr<|zVGveqlI Z Z<|zVzAb Z ?_
  refine z6<|zb Z Z<|zSr<|zVGveqlI Z Z<|zVzAb Z<|z6<|zb Z Z<|zSr<|zVGveqlI Z Z<|zVzAb Z<|z6<|zy Z Z<|zSr<|zVzMp Z<|zVzMf Z<|z7 (zIM 0 j5 wy Z Z Z Z)<|zVzFF j8 Z jm Z Z<|zVzLi Z5 Z<|y7 Z (zr (.r (.l (.l (.l (.l (.l (.l (.rest _))))))))) (sfresh_spec f iw jv jh jo jt ids s a.int hids) ?_
  rintro r53 O53 ⟨jo', ids', hids', rfl, rfl⟩
  refine zg wy Z Z Z Z Z Z .t6 Z<|zVzAb Z<|z6<|ze<|yl (y := .bool _) Z Z ⟨_, .t6⟩ jj wy Z ?_
  exact ⟨_, ⟨jo', ids', hids', rfl, rfl⟩, by first | exact left8 | exact left7⟩
 ·refine zSr<|zz (cs := _) Z Z Z<|zo (cs := [.int .i64 0, .bool false, .int .i64 0]) jc Z Z<|fun i6 => zVzAb Z<|z6<|zc<|zSr<|zVzFF j2 Z jg Z Z<|zVzLi jl Z<|z6<|zi<|zSr<|zVGveqlI Z Z<|zVzAb Z<|z6<|zb Z Z<|zc<|zSr<|zVGveqlI Z Z<|zVzAb Z<|z6<|zb Z Z<|zSr<|zVGveqlI Z Z<|zVzAb Z<|z6<|zb Z Z<|zRg<|zVGveqlI Z Z<|zVzAb Z<|z6<|zb Z Z<|zSr<|zVGveqlI Z Z<|zVzAb Z<|z6<|zb Z Z<|zSr<|zVGveqlI Z Z<|zVzAb Z ?_
  refine z6<|zb Z Z<|zSr<|zVGveqlI Z Z<|zVzAb Z<|z6<|zy Z Z<|zSr<|z7 (yn (cps := [(2, [_])]) (rs := [.int .i64 0, .bool false, _]) pl50 Z Z Z)<|zg wy Z Z Z Z Z Z .head Z<|zVzAb Z<|z6<|ze<|yl (y := .bool _) Z Z ⟨_, .head⟩ jj wy Z ?_
  exact ⟨_, ⟨jo, ids, hids, rfl, rfl⟩, by first | exact left8 | exact left7⟩
 ·obtain ⟨a, b, rfl⟩ := len2 hl
  refine zSr<|zz (cs := _) Z Z Z<|zo (cs := [.int .i64 0, .bool false, .int .i64 0]) jc Z Z<|fun i6 => zVzAb Z<|z6<|zc<|zSr<|zVzFF j2 Z jg Z Z<|zVzLi jl Z<|z6<|zi<|zSr<|zVGveqlI Z Z<|zVzAb Z<|z6<|zb Z Z<|zc<|zSr<|zVGveqlI Z Z<|zVzAb Z<|z6<|zb Z Z<|zSr<|zVGveqlI Z Z<|zVzAb Z<|z6<|zy Z Z<|zj<|zy Z Z<|zSr<|zVzMf Z<|z7 (zIM 0 j5 wy Z Z Z Z)<|zVGvloadWF jj wy Z Z<|zg wy Z Z Z Z Z Z .head Z<|zVzAb Z<|z6<|ze<|yl (y := .bool _) Z Z ⟨_, .head⟩ jj wy Z ?_
  exact ⟨_, ⟨jo, ids, hids, rfl, rfl⟩, by first | exact left8 | exact left7⟩
 ·obtain ⟨a, b, rfl⟩ := len2 hl
  refine zSr<|zz (cs := _) Z Z Z<|zo (cs := [.int .i64 0, .bool false, .int .i64 0]) jc Z Z<|fun i6 => zVzAb Z<|z6<|zc<|zSr<|zVzFF j2 Z jg Z Z<|zVzLi jl Z<|z6<|zi<|zSr<|zVGveqlI Z Z<|zVzAb Z<|z6<|zb Z Z<|zc<|zSr<|zVGveqlI Z Z<|zVzAb Z<|z6<|zb Z Z<|zSr<|zVGveqlI Z Z<|zVzAb Z<|z6<|zb Z Z<|zRg<|zVGveqlI Z Z<|zVzAb Z<|z6<|zy Z Z<|zSr<|zVzMf Z<|z7 (zIM 0 j5 wy Z Z Z Z)<|zVGvloadWF jj wy Z Z<|zg wy Z Z Z Z Z Z .head Z<|zVzAb Z<|z6<|ze ?_
  refine yl (y := .bool _) Z Z ⟨_, .head⟩ jj wy Z ?_
  exact ⟨_, ⟨jo, ids, hids, rfl, rfl⟩, by first | exact left8 | exact left7⟩
set_option maxHeartbeats 16000000 in
theorem smake_spec (f : PFunc) (iw jv jh jo jt : Nat) (ids : List Nat) (s : PS) (op dst num : Int) (args : List Int) (l : List PArg) (hop : 0 ≤ op ∧ op ≤ 26) (hop1 : ¬ (18 ≤ op ∧ op ≤ 24)) (hop2 : op ≠ 17) (hl : l.length = (takesL op).length) (hids : ids.length = s.rows.length) : ACall prog E 47 [.po iw 0, .agg (encInst ⟨op, dst, args, num⟩), .fro 3 (l.map encA)] (sO f iw jv jh jo jt ids s) (fun y O => ∃ jo' ids', ids'.length = (mkS s op ((l[0]?).getD zA) ((l[1]?).getD zA) ((l[2]?).getD zA)).rows.length ∧ y = .tup [.agg (encA (mkV s.rows op num ((l[0]?).getD zA) ((l[1]?).getD zA))), .bool (mkOk s.rows op ((l[0]?).getD zA) ((l[1]?).getD zA))] ∧ O = sO f iw jv jh jo' jt ids' (mkS s op ((l[0]?).getD zA) ((l[1]?).getD zA) ((l[2]?).getD zA))) := (smake_aux f iw jv jh jo jt ids s op dst num args l hop hop1 hop2 hl hids).sub
theorem trapOp_spec (op : Int) (h : 18 ≤ op ∧ op ≤ 24) : AFun prog E 77 [.int .i64 op] (.int .i64 (op - 17)) := by
 have hck : AFun prog E 44 [.int .i64 op] (.bool true) := by have := chkOp_spec (E := E) op; rwa [decide_eq_true h.1, decide_eq_true h.2] at this
 refine zn func77 Z (by decide) Z<|zSr<|zVzAi Z<|z6<|zc<|zSr<|zVzMi Z<|zd (hck) Z<|zVGvnot Z<|z6<|zb Z Z<|zj<|zSr<|zVzMi Z<|z7 (Gv.sub Z Z (by unfold I64; omega))<|zVzAd Z Z<|zVzAi Z<|z6<|ze<|zk (x := .int _ _) Z ?_
 exact congrArg (AV.int .i64) (by omega)
theorem len8 {α : Type} {l : List α} (h : l.length = 8) : ∃ a b c d e f g i, l = [a, b, c, d, e, f, g, i] := by
 match l, h with
 | [a, b, c, d, e, f, g, i], _ => exact ⟨a, b, c, d, e, f, g, i, rfl⟩
set_option maxHeartbeats 16000000 in
theorem scheck_spec (f : PFunc) (iw jv jh jo jt : Nat) (ids : List Nat) (s : PS) (op : Int) (l : List PArg) (hop : 18 ≤ op ∧ op ≤ 24) (hl : l.length = (takesL op).length) (hids : ids.length = s.rows.length) (h64 : ∀ a ∈ l, is64 a.int) (hck : s.ck.length = 8) (hcb : ∀ x ∈ s.ck, 0 ≤ x ∧ x ≤ 1000000000) : ACall prog E 45 [.po iw 0, .int .i64 op, .fro 3 (l.map encA)] (sO f iw jv jh jo jt ids s) (fun y O => y = .tup [] ∧ O = sO f iw jv jh jo jt ids (if passP (bumpP s (op - 17).toNat) op ((l[0]?).getD zA) ((l[1]?).getD zA) = true then bumpP s (op - 17).toNat else endP { bumpP s (op - 17).toNat with tr := op - 17 } 1)) := by
 have htr := trapOp_spec (E := E) op hop
 obtain ⟨k0, k1, k2, k3, k4, k5, k6, k7, hk8⟩ : ∃ k0 k1 k2 k3 k4 k5 k6 k7, s.ck = [k0, k1, k2, k3, k4, k5, k6, k7] := len8 hck
 obtain ⟨v, rows, blk, pc, en, val, tr, trace, st, ck, ended⟩ := s
 simp only at hk8 hids hcb
 subst hk8
 have hps := spasses_spec (E := E) jh jo ids rows op l hop hl hids h64
 have hop7 : op = 18 ∨ op = 19 ∨ op = 20 ∨ op = 21 ∨ op = 22 ∨ op = 23 ∨ op = 24 := by omega
 refine zn func45 Z (by decide) Z ?_
 rcases hop7 with rfl | rfl | rfl | rfl | rfl | rfl | rfl
 ·have hb : 0 ≤ vi (⟨v, rows, blk, pc, en, val, tr, trace, st, [k0, k1, k2, k3, k4, k5, k6, k7], ended⟩ : PS).ck 1 ∧ vi (⟨v, rows, blk, pc, en, val, tr, trace, st, [k0, k1, k2, k3, k4, k5, k6, k7], ended⟩ : PS).ck 1 ≤ 1000000000 := hcb k1 (by simp)
  refine zc<|zw (fun j => Nat.beq j 13) (by kernel_rfl) Z (zr (.r (.rest _)))<|zTk 0 Z (zMp Z)<|zTk 1 Z (zMi Z)<|zTk 3 Z (zq Z)<|zTk 4 Z (zf wz Z j3 (by decide) Z Z)<|zTk 5 Z (zf j4 Z Za (by decide) Z Z)<|yc (i := 9) Z (by kernel_rfl) (by kernel_rfl) (by kernel_rfl) (by kernel_rfl) (zq Z)<|yc (i := 10) Z (by kernel_rfl) (by kernel_rfl) (by kernel_rfl) (by kernel_rfl) (zf wz Z j3 (by decide) Z Z)<|yc (i := 11) Z (by kernel_rfl) (by kernel_rfl) (by kernel_rfl) (by kernel_rfl) (zf j4 Z Za (by decide) Z Z)<|zOn 2 Z<|zd (htr) Z<|z6<|zTk 6 Z (q1 (j := 1) jy j6 Z Z (by decide) (by decide) Z)<|zTk 7 Z (zt (c := .int _ _) je Z ⟨_, .head⟩ Z)<|zTk 8 Z (zAd Z Z)<|zTk 12 Z (q1 (j := 1) jy j6 Z Z (by decide) (by decide) Z)<|y8<|zu (i := 13) Z (by kernel_rfl) (by kernel_rfl)<|yd (l := [_]) (new := [_, _, _, _, _, _, _, _, _, _, _, _, _, _, _, _, _, _, _, _, _]) j6 Z Z Z Z Z Z .head Z Z<|z6<|ya (by kernel_rfl)<|zSr<|zVzMi Z<|zVzMp Z<|z7 (zq Z)<|z7 (zf wz Z Zn (by decide) Z Z)<|z7 (zt (c := .po _ _) Zy Z ⟨_, .head⟩ Z)<|zVzMf Z<|y7 Z (zr (.r (.r (.l (.l (.r (.l (.rest _)))))))) (hps) ?_
  rintro r25 O25 ⟨rfl, rfl⟩
  refine zVGvnot Z<|z6<|zp (zh (zm .t2))<|zp (zh (zm .t5))<|zp (zh (zm .t3))<|zp (zh (zm .t3))<|zp (zh (zm .t5))<|zp (zh (zm .t5))<|yb Z (fun cp=>?_) (fun cp=>?_)
  ·have cp : ¬ passR rows 18 ((l[0]?).getD zA) ((l[1]?).getD zA) = true := by simpa using cp
   refine zSr<|zVzMp Z<|zVzMi Z<|zd (htr) Z<|z7 (zq Z)<|z7 (zf wz Z j3 (by decide) Z Z)<|z7 (zf j4 Z Zf (by decide) Z Z)<|yd (l := [_]) (new := [_, _, _, _, _, _, _, _, _, _, _, _, _, _, _, _, _, _, _, _, _]) Zf Z Z Z Z Z Z .head Z Z<|z6<|zRg<|zVzMp Z<|y7 Z (zr (.l (.l (.l (.l (.l (.l (.rest _)))))))) (send_spec f iw jv jh jo jt ids { bumpP (⟨v, rows, blk, pc, en, val, tr, trace, st, [k0, k1, k2, k3, k4, k5, k6, k7], ended⟩ : PS) ((18 : Int) - 17).toNat with tr := (18 : Int) - 17 } 1) ?_
   rintro r34 O34 ⟨rfl, rfl⟩
   refine z6<|yp ?_
   exact ⟨rfl, by rw [if_neg (show ¬ passP (bumpP (⟨v, rows, blk, pc, en, val, tr, trace, st, [k0, k1, k2, k3, k4, k5, k6, k7], ended⟩ : PS) ((18 : Int) - 17).toNat) 18 ((l[0]?).getD zA) ((l[1]?).getD zA) = true from cp)]; rfl⟩
  ·have cp : passR rows 18 ((l[0]?).getD zA) ((l[1]?).getD zA) = true := by simpa using cp
   refine zj<|yp ?_
   exact ⟨rfl, by rw [if_pos (show passP (bumpP (⟨v, rows, blk, pc, en, val, tr, trace, st, [k0, k1, k2, k3, k4, k5, k6, k7], ended⟩ : PS) ((18 : Int) - 17).toNat) 18 ((l[0]?).getD zA) ((l[1]?).getD zA) = true from cp)]; rfl⟩
 ·have hb : 0 ≤ vi (⟨v, rows, blk, pc, en, val, tr, trace, st, [k0, k1, k2, k3, k4, k5, k6, k7], ended⟩ : PS).ck 2 ∧ vi (⟨v, rows, blk, pc, en, val, tr, trace, st, [k0, k1, k2, k3, k4, k5, k6, k7], ended⟩ : PS).ck 2 ≤ 1000000000 := hcb k2 (by simp)
  refine zc<|zw (fun j => Nat.beq j 13) (by kernel_rfl) Z (zr (.r (.rest _)))<|zTk 0 Z (zMp Z)<|zTk 1 Z (zMi Z)<|zTk 3 Z (zq Z)<|zTk 4 Z (zf wz Z j3 (by decide) Z Z)<|zTk 5 Z (zf j4 Z Za (by decide) Z Z)<|yc (i := 9) Z (by kernel_rfl) (by kernel_rfl) (by kernel_rfl) (by kernel_rfl) (zq Z)<|yc (i := 10) Z (by kernel_rfl) (by kernel_rfl) (by kernel_rfl) (by kernel_rfl) (zf wz Z j3 (by decide) Z Z)<|yc (i := 11) Z (by kernel_rfl) (by kernel_rfl) (by kernel_rfl) (by kernel_rfl) (zf j4 Z Za (by decide) Z Z)<|zOn 2 Z<|zd (htr) Z<|z6<|zTk 6 Z (q1 (j := 2) jy j6 Z Z (by decide) (by decide) Z)<|zTk 7 Z (zt (c := .int _ _) je Z ⟨_, .head⟩ Z)<|zTk 8 Z (zAd Z Z)<|zTk 12 Z (q1 (j := 2) jy j6 Z Z (by decide) (by decide) Z)<|y8<|zu (i := 13) Z (by kernel_rfl) (by kernel_rfl)<|yd (l := [_]) (new := [_, _, _, _, _, _, _, _, _, _, _, _, _, _, _, _, _, _, _, _, _]) j6 Z Z Z Z Z Z .head Z Z<|z6<|ya (by kernel_rfl)<|zSr<|zVzMi Z<|zVzMp Z<|z7 (zq Z)<|z7 (zf wz Z Zn (by decide) Z Z)<|z7 (zt (c := .po _ _) Zy Z ⟨_, .head⟩ Z)<|zVzMf Z<|y7 Z (zr (.r (.r (.l (.l (.r (.l (.rest _)))))))) (hps) ?_
  rintro r25 O25 ⟨rfl, rfl⟩
  refine zVGvnot Z<|z6<|zp (zh (zm .t2))<|zp (zh (zm .t5))<|zp (zh (zm .t3))<|zp (zh (zm .t3))<|zp (zh (zm .t5))<|zp (zh (zm .t5))<|yb Z (fun cp=>?_) (fun cp=>?_)
  ·have cp : ¬ passR rows 19 ((l[0]?).getD zA) ((l[1]?).getD zA) = true := by simpa using cp
   refine zSr<|zVzMp Z<|zVzMi Z<|zd (htr) Z<|z7 (zq Z)<|z7 (zf wz Z j3 (by decide) Z Z)<|z7 (zf j4 Z Zf (by decide) Z Z)<|yd (l := [_]) (new := [_, _, _, _, _, _, _, _, _, _, _, _, _, _, _, _, _, _, _, _, _]) Zf Z Z Z Z Z Z .head Z Z<|z6<|zRg<|zVzMp Z<|y7 Z (zr (.l (.l (.l (.l (.l (.l (.rest _)))))))) (send_spec f iw jv jh jo jt ids { bumpP (⟨v, rows, blk, pc, en, val, tr, trace, st, [k0, k1, k2, k3, k4, k5, k6, k7], ended⟩ : PS) ((19 : Int) - 17).toNat with tr := (19 : Int) - 17 } 1) ?_
   rintro r34 O34 ⟨rfl, rfl⟩
   refine z6<|yp ?_
   exact ⟨rfl, by rw [if_neg (show ¬ passP (bumpP (⟨v, rows, blk, pc, en, val, tr, trace, st, [k0, k1, k2, k3, k4, k5, k6, k7], ended⟩ : PS) ((19 : Int) - 17).toNat) 19 ((l[0]?).getD zA) ((l[1]?).getD zA) = true from cp)]; rfl⟩
  ·have cp : passR rows 19 ((l[0]?).getD zA) ((l[1]?).getD zA) = true := by simpa using cp
   refine zj<|yp ?_
   exact ⟨rfl, by rw [if_pos (show passP (bumpP (⟨v, rows, blk, pc, en, val, tr, trace, st, [k0, k1, k2, k3, k4, k5, k6, k7], ended⟩ : PS) ((19 : Int) - 17).toNat) 19 ((l[0]?).getD zA) ((l[1]?).getD zA) = true from cp)]; rfl⟩
 ·have hb : 0 ≤ vi (⟨v, rows, blk, pc, en, val, tr, trace, st, [k0, k1, k2, k3, k4, k5, k6, k7], ended⟩ : PS).ck 3 ∧ vi (⟨v, rows, blk, pc, en, val, tr, trace, st, [k0, k1, k2, k3, k4, k5, k6, k7], ended⟩ : PS).ck 3 ≤ 1000000000 := hcb k3 (by simp)
  refine zc<|zw (fun j => Nat.beq j 13) (by kernel_rfl) Z (zr (.r (.rest _)))<|zTk 0 Z (zMp Z)<|zTk 1 Z (zMi Z)<|zTk 3 Z (zq Z)<|zTk 4 Z (zf wz Z j3 (by decide) Z Z)<|zTk 5 Z (zf j4 Z Za (by decide) Z Z)<|yc (i := 9) Z (by kernel_rfl) (by kernel_rfl) (by kernel_rfl) (by kernel_rfl) (zq Z)<|yc (i := 10) Z (by kernel_rfl) (by kernel_rfl) (by kernel_rfl) (by kernel_rfl) (zf wz Z j3 (by decide) Z Z)<|yc (i := 11) Z (by kernel_rfl) (by kernel_rfl) (by kernel_rfl) (by kernel_rfl) (zf j4 Z Za (by decide) Z Z)<|zOn 2 Z<|zd (htr) Z<|z6<|zTk 6 Z (q1 (j := 3) jy j6 Z Z (by decide) (by decide) Z)<|zTk 7 Z (zt (c := .int _ _) je Z ⟨_, .head⟩ Z)<|zTk 8 Z (zAd Z Z)<|zTk 12 Z (q1 (j := 3) jy j6 Z Z (by decide) (by decide) Z)<|y8<|zu (i := 13) Z (by kernel_rfl) (by kernel_rfl)<|yd (l := [_]) (new := [_, _, _, _, _, _, _, _, _, _, _, _, _, _, _, _, _, _, _, _, _]) j6 Z Z Z Z Z Z .head Z Z<|z6<|ya (by kernel_rfl)<|zSr<|zVzMi Z<|zVzMp Z<|z7 (zq Z)<|z7 (zf wz Z Zn (by decide) Z Z)<|z7 (zt (c := .po _ _) Zy Z ⟨_, .head⟩ Z)<|zVzMf Z<|y7 Z (zr (.r (.r (.l (.l (.r (.l (.rest _)))))))) (hps) ?_
  rintro r25 O25 ⟨rfl, rfl⟩
  refine zVGvnot Z<|z6<|zp (zh (zm .t2))<|zp (zh (zm .t5))<|zp (zh (zm .t3))<|zp (zh (zm .t3))<|zp (zh (zm .t5))<|zp (zh (zm .t5))<|yb Z (fun cp=>?_) (fun cp=>?_)
  ·have cp : ¬ passR rows 20 ((l[0]?).getD zA) ((l[1]?).getD zA) = true := by simpa using cp
   refine zSr<|zVzMp Z<|zVzMi Z<|zd (htr) Z<|z7 (zq Z)<|z7 (zf wz Z j3 (by decide) Z Z)<|z7 (zf j4 Z Zf (by decide) Z Z)<|yd (l := [_]) (new := [_, _, _, _, _, _, _, _, _, _, _, _, _, _, _, _, _, _, _, _, _]) Zf Z Z Z Z Z Z .head Z Z<|z6<|zRg<|zVzMp Z<|y7 Z (zr (.l (.l (.l (.l (.l (.l (.rest _)))))))) (send_spec f iw jv jh jo jt ids { bumpP (⟨v, rows, blk, pc, en, val, tr, trace, st, [k0, k1, k2, k3, k4, k5, k6, k7], ended⟩ : PS) ((20 : Int) - 17).toNat with tr := (20 : Int) - 17 } 1) ?_
   rintro r34 O34 ⟨rfl, rfl⟩
   refine z6<|yp ?_
   exact ⟨rfl, by rw [if_neg (show ¬ passP (bumpP (⟨v, rows, blk, pc, en, val, tr, trace, st, [k0, k1, k2, k3, k4, k5, k6, k7], ended⟩ : PS) ((20 : Int) - 17).toNat) 20 ((l[0]?).getD zA) ((l[1]?).getD zA) = true from cp)]; rfl⟩
  ·have cp : passR rows 20 ((l[0]?).getD zA) ((l[1]?).getD zA) = true := by simpa using cp
   refine zj<|yp ?_
   exact ⟨rfl, by rw [if_pos (show passP (bumpP (⟨v, rows, blk, pc, en, val, tr, trace, st, [k0, k1, k2, k3, k4, k5, k6, k7], ended⟩ : PS) ((20 : Int) - 17).toNat) 20 ((l[0]?).getD zA) ((l[1]?).getD zA) = true from cp)]; rfl⟩
 ·have hb : 0 ≤ vi (⟨v, rows, blk, pc, en, val, tr, trace, st, [k0, k1, k2, k3, k4, k5, k6, k7], ended⟩ : PS).ck 4 ∧ vi (⟨v, rows, blk, pc, en, val, tr, trace, st, [k0, k1, k2, k3, k4, k5, k6, k7], ended⟩ : PS).ck 4 ≤ 1000000000 := hcb k4 (by simp)
  refine zc<|zw (fun j => Nat.beq j 13) (by kernel_rfl) Z (zr (.r (.rest _)))<|zTk 0 Z (zMp Z)<|zTk 1 Z (zMi Z)<|zTk 3 Z (zq Z)<|zTk 4 Z (zf wz Z j3 (by decide) Z Z)<|zTk 5 Z (zf j4 Z Za (by decide) Z Z)<|yc (i := 9) Z (by kernel_rfl) (by kernel_rfl) (by kernel_rfl) (by kernel_rfl) (zq Z)<|yc (i := 10) Z (by kernel_rfl) (by kernel_rfl) (by kernel_rfl) (by kernel_rfl) (zf wz Z j3 (by decide) Z Z)<|yc (i := 11) Z (by kernel_rfl) (by kernel_rfl) (by kernel_rfl) (by kernel_rfl) (zf j4 Z Za (by decide) Z Z)<|zOn 2 Z<|zd (htr) Z<|z6<|zTk 6 Z (q1 (j := 4) jy j6 Z Z (by decide) (by decide) Z)<|zTk 7 Z (zt (c := .int _ _) je Z ⟨_, .head⟩ Z)<|zTk 8 Z (zAd Z Z)<|zTk 12 Z (q1 (j := 4) jy j6 Z Z (by decide) (by decide) Z)<|y8<|zu (i := 13) Z (by kernel_rfl) (by kernel_rfl)<|yd (l := [_]) (new := [_, _, _, _, _, _, _, _, _, _, _, _, _, _, _, _, _, _, _, _, _]) j6 Z Z Z Z Z Z .head Z Z<|z6<|ya (by kernel_rfl)<|zSr<|zVzMi Z<|zVzMp Z<|z7 (zq Z)<|z7 (zf wz Z Zn (by decide) Z Z)<|z7 (zt (c := .po _ _) Zy Z ⟨_, .head⟩ Z)<|zVzMf Z<|y7 Z (zr (.r (.r (.l (.l (.r (.l (.rest _)))))))) (hps) ?_
  rintro r25 O25 ⟨rfl, rfl⟩
  refine zVGvnot Z<|z6<|zp (zh (zm .t2))<|zp (zh (zm .t5))<|zp (zh (zm .t3))<|zp (zh (zm .t3))<|zp (zh (zm .t5))<|zp (zh (zm .t5))<|yb Z (fun cp=>?_) (fun cp=>?_)
  ·have cp : ¬ passR rows 21 ((l[0]?).getD zA) ((l[1]?).getD zA) = true := by simpa using cp
   refine zSr<|zVzMp Z<|zVzMi Z<|zd (htr) Z<|z7 (zq Z)<|z7 (zf wz Z j3 (by decide) Z Z)<|z7 (zf j4 Z Zf (by decide) Z Z)<|yd (l := [_]) (new := [_, _, _, _, _, _, _, _, _, _, _, _, _, _, _, _, _, _, _, _, _]) Zf Z Z Z Z Z Z .head Z Z<|z6<|zRg<|zVzMp Z<|y7 Z (zr (.l (.l (.l (.l (.l (.l (.rest _)))))))) (send_spec f iw jv jh jo jt ids { bumpP (⟨v, rows, blk, pc, en, val, tr, trace, st, [k0, k1, k2, k3, k4, k5, k6, k7], ended⟩ : PS) ((21 : Int) - 17).toNat with tr := (21 : Int) - 17 } 1) ?_
   rintro r34 O34 ⟨rfl, rfl⟩
   refine z6<|yp ?_
   exact ⟨rfl, by rw [if_neg (show ¬ passP (bumpP (⟨v, rows, blk, pc, en, val, tr, trace, st, [k0, k1, k2, k3, k4, k5, k6, k7], ended⟩ : PS) ((21 : Int) - 17).toNat) 21 ((l[0]?).getD zA) ((l[1]?).getD zA) = true from cp)]; rfl⟩
  ·have cp : passR rows 21 ((l[0]?).getD zA) ((l[1]?).getD zA) = true := by simpa using cp
   refine zj<|yp ?_
   exact ⟨rfl, by rw [if_pos (show passP (bumpP (⟨v, rows, blk, pc, en, val, tr, trace, st, [k0, k1, k2, k3, k4, k5, k6, k7], ended⟩ : PS) ((21 : Int) - 17).toNat) 21 ((l[0]?).getD zA) ((l[1]?).getD zA) = true from cp)]; rfl⟩
 ·have hb : 0 ≤ vi (⟨v, rows, blk, pc, en, val, tr, trace, st, [k0, k1, k2, k3, k4, k5, k6, k7], ended⟩ : PS).ck 5 ∧ vi (⟨v, rows, blk, pc, en, val, tr, trace, st, [k0, k1, k2, k3, k4, k5, k6, k7], ended⟩ : PS).ck 5 ≤ 1000000000 := hcb k5 (by simp)
  refine zc<|zw (fun j => Nat.beq j 13) (by kernel_rfl) Z (zr (.r (.rest _)))<|zTk 0 Z (zMp Z)<|zTk 1 Z (zMi Z)<|zTk 3 Z (zq Z)<|zTk 4 Z (zf wz Z j3 (by decide) Z Z)<|zTk 5 Z (zf j4 Z Za (by decide) Z Z)<|yc (i := 9) Z (by kernel_rfl) (by kernel_rfl) (by kernel_rfl) (by kernel_rfl) (zq Z)<|yc (i := 10) Z (by kernel_rfl) (by kernel_rfl) (by kernel_rfl) (by kernel_rfl) (zf wz Z j3 (by decide) Z Z)<|yc (i := 11) Z (by kernel_rfl) (by kernel_rfl) (by kernel_rfl) (by kernel_rfl) (zf j4 Z Za (by decide) Z Z)<|zOn 2 Z<|zd (htr) Z<|z6<|zTk 6 Z (q1 (j := 5) jy j6 Z Z (by decide) (by decide) Z)<|zTk 7 Z (zt (c := .int _ _) je Z ⟨_, .head⟩ Z)<|zTk 8 Z (zAd Z Z)<|zTk 12 Z (q1 (j := 5) jy j6 Z Z (by decide) (by decide) Z)<|y8<|zu (i := 13) Z (by kernel_rfl) (by kernel_rfl)<|yd (l := [_]) (new := [_, _, _, _, _, _, _, _, _, _, _, _, _, _, _, _, _, _, _, _, _]) j6 Z Z Z Z Z Z .head Z Z<|z6<|ya (by kernel_rfl)<|zSr<|zVzMi Z<|zVzMp Z<|z7 (zq Z)<|z7 (zf wz Z Zn (by decide) Z Z)<|z7 (zt (c := .po _ _) Zy Z ⟨_, .head⟩ Z)<|zVzMf Z<|y7 Z (zr (.r (.r (.l (.l (.r (.l (.rest _)))))))) (hps) ?_
  rintro r25 O25 ⟨rfl, rfl⟩
  refine zVGvnot Z<|z6<|zp (zh (zm .t2))<|zp (zh (zm .t5))<|zp (zh (zm .t3))<|zp (zh (zm .t3))<|zp (zh (zm .t5))<|zp (zh (zm .t5))<|yb Z (fun cp=>?_) (fun cp=>?_)
  ·have cp : ¬ passR rows 22 ((l[0]?).getD zA) ((l[1]?).getD zA) = true := by simpa using cp
   refine zSr<|zVzMp Z<|zVzMi Z<|zd (htr) Z<|z7 (zq Z)<|z7 (zf wz Z j3 (by decide) Z Z)<|z7 (zf j4 Z Zf (by decide) Z Z)<|yd (l := [_]) (new := [_, _, _, _, _, _, _, _, _, _, _, _, _, _, _, _, _, _, _, _, _]) Zf Z Z Z Z Z Z .head Z Z<|z6<|zRg<|zVzMp Z<|y7 Z (zr (.l (.l (.l (.l (.l (.l (.rest _)))))))) (send_spec f iw jv jh jo jt ids { bumpP (⟨v, rows, blk, pc, en, val, tr, trace, st, [k0, k1, k2, k3, k4, k5, k6, k7], ended⟩ : PS) ((22 : Int) - 17).toNat with tr := (22 : Int) - 17 } 1) ?_
   rintro r34 O34 ⟨rfl, rfl⟩
   refine z6<|yp ?_
   exact ⟨rfl, by rw [if_neg (show ¬ passP (bumpP (⟨v, rows, blk, pc, en, val, tr, trace, st, [k0, k1, k2, k3, k4, k5, k6, k7], ended⟩ : PS) ((22 : Int) - 17).toNat) 22 ((l[0]?).getD zA) ((l[1]?).getD zA) = true from cp)]; rfl⟩
  ·have cp : passR rows 22 ((l[0]?).getD zA) ((l[1]?).getD zA) = true := by simpa using cp
   refine zj<|yp ?_
   exact ⟨rfl, by rw [if_pos (show passP (bumpP (⟨v, rows, blk, pc, en, val, tr, trace, st, [k0, k1, k2, k3, k4, k5, k6, k7], ended⟩ : PS) ((22 : Int) - 17).toNat) 22 ((l[0]?).getD zA) ((l[1]?).getD zA) = true from cp)]; rfl⟩
 ·have hb : 0 ≤ vi (⟨v, rows, blk, pc, en, val, tr, trace, st, [k0, k1, k2, k3, k4, k5, k6, k7], ended⟩ : PS).ck 6 ∧ vi (⟨v, rows, blk, pc, en, val, tr, trace, st, [k0, k1, k2, k3, k4, k5, k6, k7], ended⟩ : PS).ck 6 ≤ 1000000000 := hcb k6 (by simp)
  refine zc<|zw (fun j => Nat.beq j 13) (by kernel_rfl) Z (zr (.r (.rest _)))<|zTk 0 Z (zMp Z)<|zTk 1 Z (zMi Z)<|zTk 3 Z (zq Z)<|zTk 4 Z (zf wz Z j3 (by decide) Z Z)<|zTk 5 Z (zf j4 Z Za (by decide) Z Z)<|yc (i := 9) Z (by kernel_rfl) (by kernel_rfl) (by kernel_rfl) (by kernel_rfl) (zq Z)<|yc (i := 10) Z (by kernel_rfl) (by kernel_rfl) (by kernel_rfl) (by kernel_rfl) (zf wz Z j3 (by decide) Z Z)<|yc (i := 11) Z (by kernel_rfl) (by kernel_rfl) (by kernel_rfl) (by kernel_rfl) (zf j4 Z Za (by decide) Z Z)<|zOn 2 Z<|zd (htr) Z<|z6<|zTk 6 Z (q1 (j := 6) jy j6 Z Z (by decide) (by decide) Z)<|zTk 7 Z (zt (c := .int _ _) je Z ⟨_, .head⟩ Z)<|zTk 8 Z (zAd Z Z)<|zTk 12 Z (q1 (j := 6) jy j6 Z Z (by decide) (by decide) Z)<|y8<|zu (i := 13) Z (by kernel_rfl) (by kernel_rfl)<|yd (l := [_]) (new := [_, _, _, _, _, _, _, _, _, _, _, _, _, _, _, _, _, _, _, _, _]) j6 Z Z Z Z Z Z .head Z Z<|z6<|ya (by kernel_rfl)<|zSr<|zVzMi Z<|zVzMp Z<|z7 (zq Z)<|z7 (zf wz Z Zn (by decide) Z Z)<|z7 (zt (c := .po _ _) Zy Z ⟨_, .head⟩ Z)<|zVzMf Z<|y7 Z (zr (.r (.r (.l (.l (.r (.l (.rest _)))))))) (hps) ?_
  rintro r25 O25 ⟨rfl, rfl⟩
  refine zVGvnot Z<|z6<|zp (zh (zm .t2))<|zp (zh (zm .t5))<|zp (zh (zm .t3))<|zp (zh (zm .t3))<|zp (zh (zm .t5))<|zp (zh (zm .t5))<|yb Z (fun cp=>?_) (fun cp=>?_)
  ·have cp : ¬ passR rows 23 ((l[0]?).getD zA) ((l[1]?).getD zA) = true := by simpa using cp
   refine zSr<|zVzMp Z<|zVzMi Z<|zd (htr) Z<|z7 (zq Z)<|z7 (zf wz Z j3 (by decide) Z Z)<|z7 (zf j4 Z Zf (by decide) Z Z)<|yd (l := [_]) (new := [_, _, _, _, _, _, _, _, _, _, _, _, _, _, _, _, _, _, _, _, _]) Zf Z Z Z Z Z Z .head Z Z<|z6<|zRg<|zVzMp Z<|y7 Z (zr (.l (.l (.l (.l (.l (.l (.rest _)))))))) (send_spec f iw jv jh jo jt ids { bumpP (⟨v, rows, blk, pc, en, val, tr, trace, st, [k0, k1, k2, k3, k4, k5, k6, k7], ended⟩ : PS) ((23 : Int) - 17).toNat with tr := (23 : Int) - 17 } 1) ?_
   rintro r34 O34 ⟨rfl, rfl⟩
   refine z6<|yp ?_
   exact ⟨rfl, by rw [if_neg (show ¬ passP (bumpP (⟨v, rows, blk, pc, en, val, tr, trace, st, [k0, k1, k2, k3, k4, k5, k6, k7], ended⟩ : PS) ((23 : Int) - 17).toNat) 23 ((l[0]?).getD zA) ((l[1]?).getD zA) = true from cp)]; rfl⟩
  ·have cp : passR rows 23 ((l[0]?).getD zA) ((l[1]?).getD zA) = true := by simpa using cp
   refine zj<|yp ?_
   exact ⟨rfl, by rw [if_pos (show passP (bumpP (⟨v, rows, blk, pc, en, val, tr, trace, st, [k0, k1, k2, k3, k4, k5, k6, k7], ended⟩ : PS) ((23 : Int) - 17).toNat) 23 ((l[0]?).getD zA) ((l[1]?).getD zA) = true from cp)]; rfl⟩
 ·have hb : 0 ≤ vi (⟨v, rows, blk, pc, en, val, tr, trace, st, [k0, k1, k2, k3, k4, k5, k6, k7], ended⟩ : PS).ck 7 ∧ vi (⟨v, rows, blk, pc, en, val, tr, trace, st, [k0, k1, k2, k3, k4, k5, k6, k7], ended⟩ : PS).ck 7 ≤ 1000000000 := hcb k7 (by simp)
  refine zc<|zw (fun j => Nat.beq j 13) (by kernel_rfl) Z (zr (.r (.rest _)))<|zTk 0 Z (zMp Z)<|zTk 1 Z (zMi Z)<|zTk 3 Z (zq Z)<|zTk 4 Z (zf wz Z j3 (by decide) Z Z)<|zTk 5 Z (zf j4 Z Za (by decide) Z Z)<|yc (i := 9) Z (by kernel_rfl) (by kernel_rfl) (by kernel_rfl) (by kernel_rfl) (zq Z)<|yc (i := 10) Z (by kernel_rfl) (by kernel_rfl) (by kernel_rfl) (by kernel_rfl) (zf wz Z j3 (by decide) Z Z)<|yc (i := 11) Z (by kernel_rfl) (by kernel_rfl) (by kernel_rfl) (by kernel_rfl) (zf j4 Z Za (by decide) Z Z)<|zOn 2 Z<|zd (htr) Z<|z6<|zTk 6 Z (q1 (j := 7) jy j6 Z Z (by decide) (by decide) Z)<|zTk 7 Z (zt (c := .int _ _) je Z ⟨_, .head⟩ Z)<|zTk 8 Z (zAd Z Z)<|zTk 12 Z (q1 (j := 7) jy j6 Z Z (by decide) (by decide) Z)<|y8<|zu (i := 13) Z (by kernel_rfl) (by kernel_rfl)<|yd (l := [_]) (new := [_, _, _, _, _, _, _, _, _, _, _, _, _, _, _, _, _, _, _, _, _]) j6 Z Z Z Z Z Z .head Z Z<|z6<|ya (by kernel_rfl)<|zSr<|zVzMi Z<|zVzMp Z<|z7 (zq Z)<|z7 (zf wz Z Zn (by decide) Z Z)<|z7 (zt (c := .po _ _) Zy Z ⟨_, .head⟩ Z)<|zVzMf Z<|y7 Z (zr (.r (.r (.l (.l (.r (.l (.rest _)))))))) (hps) ?_
  rintro r25 O25 ⟨rfl, rfl⟩
  refine zVGvnot Z<|z6<|zp (zh (zm .t2))<|zp (zh (zm .t5))<|zp (zh (zm .t3))<|zp (zh (zm .t3))<|zp (zh (zm .t5))<|zp (zh (zm .t5))<|yb Z (fun cp=>?_) (fun cp=>?_)
  ·have cp : ¬ passR rows 24 ((l[0]?).getD zA) ((l[1]?).getD zA) = true := by simpa using cp
   refine zSr<|zVzMp Z<|zVzMi Z<|zd (htr) Z<|z7 (zq Z)<|z7 (zf wz Z j3 (by decide) Z Z)<|z7 (zf j4 Z Zf (by decide) Z Z)<|yd (l := [_]) (new := [_, _, _, _, _, _, _, _, _, _, _, _, _, _, _, _, _, _, _, _, _]) Zf Z Z Z Z Z Z .head Z Z<|z6<|zRg<|zVzMp Z<|y7 Z (zr (.l (.l (.l (.l (.l (.l (.rest _)))))))) (send_spec f iw jv jh jo jt ids { bumpP (⟨v, rows, blk, pc, en, val, tr, trace, st, [k0, k1, k2, k3, k4, k5, k6, k7], ended⟩ : PS) ((24 : Int) - 17).toNat with tr := (24 : Int) - 17 } 1) ?_
   rintro r34 O34 ⟨rfl, rfl⟩
   refine z6<|yp ?_
   exact ⟨rfl, by rw [if_neg (show ¬ passP (bumpP (⟨v, rows, blk, pc, en, val, tr, trace, st, [k0, k1, k2, k3, k4, k5, k6, k7], ended⟩ : PS) ((24 : Int) - 17).toNat) 24 ((l[0]?).getD zA) ((l[1]?).getD zA) = true from cp)]; rfl⟩
  ·have cp : passR rows 24 ((l[0]?).getD zA) ((l[1]?).getD zA) = true := by simpa using cp
   refine zj<|yp ?_
   exact ⟨rfl, by rw [if_pos (show passP (bumpP (⟨v, rows, blk, pc, en, val, tr, trace, st, [k0, k1, k2, k3, k4, k5, k6, k7], ended⟩ : PS) ((24 : Int) - 17).toNat) 24 ((l[0]?).getD zA) ((l[1]?).getD zA) = true from cp)]; rfl⟩
end Go.Proofs.YtoicilchhkndmaaGreatDoor
