/- Is a check proved with bounds, and the law AbcdJudges, given its example. No conditions but bounds. -/
import Derived.Test.YthlpjaleclchgaaGreatDoorJc
import Derived.Test.YthlpjaleclchgaaGreatDoorJb
set_option linter.unusedVariables false
set_option linter.unusedSimpArgs false
set_option linter.unusedSectionVars false
namespace Go.Proofs.YthlpjaleclchgaaGreatDoor
open Go.Proofs.Tryz
open Go.Proofs Go.Lib Go.Shelf Go.RowKit
theorem pl94 : Places prog 94 #[(0, 1), (1, 1)] [.bool false, .int .i64 0] := ⟨_, _, jc, jd, fun w => by kernel_rfl, rfl⟩
theorem pl106 : Places prog 106 #[(0, 1), (1, 1)] [.int .i64 0, .int .i64 0] := ⟨_, _, wz, j5, fun w => by kernel_rfl, rfl⟩
variable {E : World}
set_option maxRecDepth 20000
def bOf (l : List Bnd) (v : Int) : Bnd := if v < 0 ∨ (l.length : Int) ≤ v then (false, 0) else (l[v.toNat]?).getD (false, 0)
theorem bOf_at {l : List Bnd} {v : Int} (h0 : 0 ≤ v) (h1 : v < l.length) : l[v.toNat]? = some (bOf l v) := by
 unfold bOf
 rw [if_neg (by omega), yr (by omega)]; rfl
theorem bOf_no {l : List Bnd} {v : Int} (h : v < 0 ∨ (l.length : Int) ≤ v) : bOf l v = (false, 0) := if_pos h
theorem jof_spec (l : List Bnd) (v : Int) (hl : l.length ≤ 9223372036854775807) : AFun prog E 39 [.fro 2 (l.map encBd), .int .i64 v] (.agg (encBd (bOf l v))) := by
 refine zp func39 Z (by decide) Z<|zSr<|ze (cs := [.bool false, .int .i64 0]) jd Z Z<|fun i4 => z7 ?_
 by_cases h0 : v < 0
 ·refine zg<|zSr<|zVzMi Z<|z6 (y9 Z Z)<|zVzMb Z<|z8 Z Z (by simpa using h0)<|z8 Z Z (by simpa using h0)<|z8 Z Z (by simpa using h0)<|z8 Z Z (by simpa using h0)<|z6 (zPt Z (by simpa using h0) Z)<|z7<|ya Z Z<|zSr<|z6 (zo (cps := []) (rs := [.bool false, .int .i64 0]) pl94 Z Z Z)<|zb j9 Z Z Z Z Z Z .head Z<|z7<|zf<|afin.c1 Z ⟨_, .head⟩ isAgg94 j9 Z ?_
  rw [bOf_no (.inl h0)]; rfl
 ·refine zg<|zSr<|zVzMi Z<|z6 (y9 Z Z)<|zVzMb Z<|za Z Z (by simpa using h0)<|zVzMi Z<|za Z Z (by simpa using h0)<|z6 (zMf Z)<|za Z Z (by simpa using h0)<|z6 (Gv.lenM ji Z)<|za Z Z (by simpa using h0)<|z6 (Gv.geq Z Z)<|z6 (zPf Z (by simpa using h0) Z)<|z7<|AWP.cond Z (fun c2=>?_) (fun c2=>?_)
  ·have c2 : (l.length : Int) ≤ v := by simpa using c2
   refine zSr<|z6 (zo (cps := []) (rs := [.bool false, .int .i64 0]) pl94 Z Z Z)<|zb j9 Z Z Z Z Z Z .head Z<|z7<|zf<|afin.c1 Z ⟨_, .head⟩ isAgg94 j9 Z ?_
   rw [bOf_no (.inr c2)]; rfl
  ·have c2 : v < (l.length : Int) := by simpa using c2
   refine zz<|zSr<|z6 (zMf Z)<|zVzMi Z<|z6 (zIM v.toNat ji j9 Z Z (by omega) (bOf_at (by omega) c2))<|z6 (zx isAgg94 j9 Z Z)<|zb j9 Z Z Z Z Z Z .head Z<|z7<|zf<|afin.c1 Z ⟨_, .head⟩ isAgg94 j9 Z ?_
   rfl
theorem rjof_spec (l : List Bnd) (v : Int) (hl : l.length ≤ 9223372036854775807) : AFun prog E 44 [.fro 2 (l.map encMk), .int .i64 v] (.agg (encMk (bOf l v))) := by
 refine zp func44 Z (by decide) Z<|zSr<|ze (cs := [.int .i64 0, .int .i64 0]) j5 Z Z<|fun i4 => z7 ?_
 by_cases h0 : v < 0
 ·refine zg<|zSr<|zVzMi Z<|z6 (y9 Z Z)<|zVzMb Z<|z8 Z Z (by simpa using h0)<|z8 Z Z (by simpa using h0)<|z8 Z Z (by simpa using h0)<|z8 Z Z (by simpa using h0)<|z6 (zPt Z (by simpa using h0) Z)<|zVzMb Z<|z8 Z Z Z<|z8 Z Z Z<|z8 Z Z Z<|z8 Z Z Z<|z8 Z Z Z<|z8 Z Z Z<|zVzPt Z Z Z<|z7<|ya Z Z<|zSr<|z6 (zo (cps := [(0, [_])]) (rs := [_, .int .i64 0]) pl106 Z Z Z)<|zb j4 Z Z Z Z Z Z .head Z<|z7<|zf<|afin.c1 Z ⟨_, .head⟩ isAgg106 j4 Z ?_
  rw [bOf_no (.inl h0)]; rfl
 ·refine zg<|zSr<|zVzMi Z<|z6 (y9 Z Z)<|zVzMb Z ?_
  by_cases h1 : (l.length : Int) ≤ v
  ·refine za Z Z (by simpa using h0)<|zVzMi Z<|za Z Z (by simpa using h0)<|z6 (zMf Z)<|za Z Z (by simpa using h0)<|z6 (Gv.lenM jp Z)<|za Z Z (by simpa using h0)<|z6 (Gv.geq Z Z)<|z6 (zPf Z (by simpa using h0) Z)<|zVzMb Z<|z8 Z Z (by simpa using h1)<|z8 Z Z (by simpa using h1)<|z8 Z Z (by simpa using h1)<|z8 Z Z (by simpa using h1)<|z8 Z Z (by simpa using h1)<|z8 Z Z (by simpa using h1)<|z6 (zPt Z (by simpa using h1) Z)<|z7<|ya Z Z<|zSr<|z6 (zo (cps := [(0, [_])]) (rs := [_, .int .i64 0]) pl106 Z Z Z)<|zb j4 Z Z Z Z Z Z .head Z<|z7<|zf<|afin.c1 Z ⟨_, .head⟩ isAgg106 j4 Z ?_
   rw [bOf_no (.inr h1)]; rfl
  ·refine za Z Z (by simpa using h0)<|zVzMi Z<|za Z Z (by simpa using h0)<|z6 (zMf Z)<|za Z Z (by simpa using h0)<|z6 (Gv.lenM jp Z)<|za Z Z (by simpa using h0)<|z6 (Gv.geq Z Z)<|z6 (zPf Z (by simpa using h0) Z)<|zVzMb Z ?_
   by_cases hb : (bOf l v).1 = true
   ·refine za Z Z (by simpa using h1)<|z6 (zMf Z)<|za Z Z (by simpa using h1)<|zVzMi Z<|za Z Z (by simpa using h1)<|z6 (zIM v.toNat jp j4 Z Z (by omega) (bOf_at (by omega) (by omega)))<|za Z Z (by simpa using h1)<|zVzFF wz Z je Z Z<|za Z Z (by simpa using h1)<|zVzLi jf Z<|za Z Z (by simpa using h1)<|z6 (Gv.neqI Z Z)<|z6 (zPf Z (by simpa using h1) Z)<|z7<|yq Z (by rw [if_pos hb]; rfl)<|zz<|zSr<|z6 (zMf Z)<|zVzMi Z<|z6 (zIM v.toNat jp j4 Z Z (by omega) (bOf_at (by omega) (by omega)))<|z6 (zx isAgg106 j4 Z Z)<|zb j4 Z Z Z Z Z Z .head Z<|z7<|zf<|afin.c1 Z ⟨_, .head⟩ isAgg106 j4 Z ?_
    rfl
   ·have hb2 : encMk (bOf l v) = [.int .i64 2, .int .i64 0] := by unfold encMk; rw [if_neg hb, if_neg hb]
    refine za Z Z (by simpa using h1)<|z6 (zMf Z)<|za Z Z (by simpa using h1)<|zVzMi Z<|za Z Z (by simpa using h1)<|z6 (zIM v.toNat jp j4 Z Z (by omega) (bOf_at (by omega) (by omega)))<|za Z Z (by simpa using h1)<|zVzFF wz Z je Z Z<|za Z Z (by simpa using h1)<|zVzLi jf Z<|za Z Z (by simpa using h1)<|z6 (Gv.neqI Z Z)<|z6 (zPf Z (by simpa using h1) Z)<|z7<|ya Z (by rw [if_neg hb]; rfl)<|zSr<|z6 (zo (cps := [(0, [_])]) (rs := [_, .int .i64 0]) pl106 Z Z Z)<|zb j4 Z Z Z Z Z Z .head Z<|z7<|zf<|afin.c1 Z ⟨_, .head⟩ isAgg106 j4 Z ?_
    rw [hb2]; rfl
def sdV (lo up ov : List Bnd) : List AV := [.fro 2 (lo.map encBd), .fro 2 (up.map encBd), .fro 2 (ov.map encBd)]
def leastB (lo : List Bnd) (v n : Int) : Bool := (bOf lo v).1 && decide (n ≤ (bOf lo v).2)
def mostB (up : List Bnd) (v n : Int) : Bool := (bOf up v).1 && decide ((bOf up v).2 ≤ n)
theorem least_spec (lo up ov : List Bnd) (v n : Int) (hl : lo.length ≤ 9223372036854775807) : AFun prog E 40 [.agg (sdV lo up ov), .int .i64 v, .int .i64 n] (.bool (leastB lo v n)) := by
 have hj := jof_spec (E := E) lo v hl
 unfold sdV leastB
 refine zp func40 Z (by decide) Z<|zSr<|yi (cs := _) Z Z Z<|zVzAb Z<|z7 ?_
 by_cases h0 : (bOf lo v).1 = true
 ·refine zSr<|zVzFF jm Z sizeOf26 Z Z<|z6 (zLf isAgg26 Z)<|zVzMi Z<|zc (hj) Z<|z6 (Gv.field1 (v := .bool _) jc Z jw Z Z)<|zVzMb Z<|za Z Z h0<|zVzFF jm Z sizeOf26 Z Z<|za Z Z h0<|z6 (zLf isAgg26 Z)<|za Z Z h0<|zVzMi Z<|za Z Z h0<|zc (hj) Z<|za Z Z h0<|z6 (Gv.field1 (v := .int _ _) jc Z j8 Z Z)<|za Z Z h0<|zVzMi Z<|za Z Z h0<|z6 (Gv.geq Z Z)<|zVzPt Z h0 Z<|zVzAb Z<|z7<|zf<|zh (x := .bool _) Z ?_
  exact jb (by rw [h0]; simp)
 ·refine zSr<|zVzFF jm Z sizeOf26 Z Z<|z6 (zLf isAgg26 Z)<|zVzMi Z<|zc (hj) Z<|z6 (Gv.field1 (v := .bool _) jc Z jw Z Z)<|zVzMb Z<|z8 Z Z (Bool.eq_false_iff.2 h0)<|z8 Z Z (Bool.eq_false_iff.2 h0)<|z8 Z Z (Bool.eq_false_iff.2 h0)<|z8 Z Z (Bool.eq_false_iff.2 h0)<|z8 Z Z (Bool.eq_false_iff.2 h0)<|z8 Z Z (Bool.eq_false_iff.2 h0)<|z8 Z Z (Bool.eq_false_iff.2 h0)<|z6 (zPf Z (Bool.eq_false_iff.2 h0) Z)<|zVzAb Z<|z7<|zf<|zh (x := .bool _) Z ?_
  exact jb (by rw [Bool.eq_false_iff.2 h0]; rfl)
theorem most_spec (lo up ov : List Bnd) (v n : Int) (hl : up.length ≤ 9223372036854775807) : AFun prog E 41 [.agg (sdV lo up ov), .int .i64 v, .int .i64 n] (.bool (mostB up v n)) := by
 have hj := jof_spec (E := E) up v hl
 unfold sdV mostB
 refine zp func41 Z (by decide) Z<|zSr<|yi (cs := _) Z Z Z<|zVzAb Z<|z7 ?_
 by_cases h0 : (bOf up v).1 = true
 ·refine zSr<|zVzFF jm Z sizeOf26 Z Z<|z6 (zLf isAgg26 Z)<|zVzMi Z<|zc (hj) Z<|z6 (Gv.field1 (v := .bool _) jc Z jw Z Z)<|zVzMb Z<|za Z Z h0<|zVzFF jm Z sizeOf26 Z Z<|za Z Z h0<|z6 (zLf isAgg26 Z)<|za Z Z h0<|zVzMi Z<|za Z Z h0<|zc (hj) Z<|za Z Z h0<|z6 (Gv.field1 (v := .int _ _) jc Z j8 Z Z)<|za Z Z h0<|zVzMi Z<|za Z Z h0<|z6 (Gv.leq Z Z)<|zVzPt Z h0 Z<|zVzAb Z<|z7<|zf<|zh (x := .bool _) Z ?_
  exact jb (by rw [h0]; simp)
 ·refine zSr<|zVzFF jm Z sizeOf26 Z Z<|z6 (zLf isAgg26 Z)<|zVzMi Z<|zc (hj) Z<|z6 (Gv.field1 (v := .bool _) jc Z jw Z Z)<|zVzMb Z<|z8 Z Z (Bool.eq_false_iff.2 h0)<|z8 Z Z (Bool.eq_false_iff.2 h0)<|z8 Z Z (Bool.eq_false_iff.2 h0)<|z8 Z Z (Bool.eq_false_iff.2 h0)<|z8 Z Z (Bool.eq_false_iff.2 h0)<|z8 Z Z (Bool.eq_false_iff.2 h0)<|z8 Z Z (Bool.eq_false_iff.2 h0)<|z6 (zPf Z (Bool.eq_false_iff.2 h0) Z)<|zVzAb Z<|z7<|zf<|zh (x := .bool _) Z ?_
  exact jb (by rw [Bool.eq_false_iff.2 h0]; rfl)
def spanB (lo up : List Bnd) (v : Int) : Rng := ((bOf lo v).2, (bOf up v).2)
theorem span_spec (lo up ov : List Bnd) (v : Int) (hl : lo.length ≤ 9223372036854775807) (hu : up.length ≤ 9223372036854775807) : AFun prog E 42 [.agg (sdV lo up ov), .int .i64 v] (.tup [.agg (encZ (spanB lo up v)), .bool ((bOf lo v).1 && (bOf up v).1)]) := by
 unfold sdV
 refine zp func42 Z (by decide) Z<|zSr<|yi (cs := _) Z Z Z<|ze (cs := [.int .i64 0, .int .i64 0]) jo Z Z<|fun i4 => zVzAb Z<|z7<|zg<|AWP.cutS (γ := Nat × Nat) [4] (fun g => [(6, .po g.1 0), (7, .po g.2 0)]) (fun g => [(g.1, .cells 94 (encBd (bOf lo v))), (g.2, .cells 94 (encBd (bOf up v))), (i4, .cells 89 [.int .i64 0, .int .i64 0])]) (fun g => True) ?_ (fun _ _ h => h) ?_
 ·refine zy (fun j => Nat.beq j 10 || Nat.beq j 11) (by kernel_rfl) Z (yd (.rest _))<|zTk 0 Z (zFF jm Z sizeOf26 Z Z)<|zTk 1 Z (zLf isAgg26 Z)<|zTk 2 Z (zMi Z)<|zt (i := 4) Z (by kernel_rfl) (by kernel_rfl) (by kernel_rfl) (by kernel_rfl) (zFF jm Z sizeOf26 Z Z)<|zt (i := 5) Z (by kernel_rfl) (by kernel_rfl) (by kernel_rfl) (by kernel_rfl) (zLf isAgg26 Z)<|zt (i := 6) Z (by kernel_rfl) (by kernel_rfl) (by kernel_rfl) (by kernel_rfl) (zMi Z)<|AAny.three (i := 3) (j := 8) (m := 9) Z Z Z (by kernel_rfl) ?_ ?_ ?_
  ·refine zc (jof_spec lo v hl) Z<|z7<|AAny.three (i := 7) (j := 8) (m := 9) Z Z Z (by kernel_rfl) ?_ ?_ ?_
   ·refine zc (jof_spec up v hu) Z<|z7<|yc (i := 8) (j := 9) Z Z (by kernel_rfl) ?_ ?_
    ·refine ze (cs := [.bool false, .int .i64 0]) jd Z Z<|fun i6 => z7<|zOn 9 Z<|ze (cs := [.bool false, .int .i64 0]) jd Z Z<|fun i7 => z7<|zi<|zd (i := 10) Z (by kernel_rfl) (by kernel_rfl)<|zb j9 Z Z Z Z Z Z .t1 Z<|z7<|zd (i := 11) Z (by kernel_rfl) (by kernel_rfl)<|zb j9 Z Z Z Z Z Z .head Z<|zn (zj (zm .t2))<|zn (zj (zm .t1))<|zn (zj (zm .t2))<|z7<|zk (by kernel_rfl) ?_
     exact ⟨(i6, i7), (by repeat (first | with_reducible exact zr _ _ | refine zw rfl ?_ | exact zR1)), zR2, zLe, trivial⟩
    ·refine ze (cs := [.bool false, .int .i64 0]) jd Z Z<|fun i7 => z7<|zOn 8 Z<|ze (cs := [.bool false, .int .i64 0]) jd Z Z<|fun i6 => z7<|zi<|zd (i := 10) Z (by kernel_rfl) (by kernel_rfl)<|zb j9 Z Z Z Z Z Z .head Z<|z7<|zd (i := 11) Z (by kernel_rfl) (by kernel_rfl)<|zb j9 Z Z Z Z Z Z .t1 Z<|z7<|zk (by kernel_rfl) ?_
     exact ⟨(i6, i7), (by repeat (first | with_reducible exact zr _ _ | refine zw rfl ?_ | exact zR1)), zR2, zLe, trivial⟩
   ·refine ze (cs := [.bool false, .int .i64 0]) jd Z Z<|fun i6 => z7<|yc (i := 7) (j := 9) Z Z (by kernel_rfl) ?_ ?_
    ·refine zc (jof_spec up v hu) Z<|z7<|zOn 9 Z<|ze (cs := [.bool false, .int .i64 0]) jd Z Z<|fun i7 => z7<|zi<|zd (i := 10) Z (by kernel_rfl) (by kernel_rfl)<|zb j9 Z Z Z Z Z Z .t1 Z<|z7<|zd (i := 11) Z (by kernel_rfl) (by kernel_rfl)<|zb j9 Z Z Z Z Z Z .head Z<|zn (zj (zm .t2))<|zn (zj (zm .t1))<|zn (zj (zm .t2))<|z7<|zk (by kernel_rfl) ?_
     exact ⟨(i6, i7), (by repeat (first | with_reducible exact zr _ _ | refine zw rfl ?_ | exact zR1)), zR2, zLe, trivial⟩
    ·refine ze (cs := [.bool false, .int .i64 0]) jd Z Z<|fun i7 => z7<|zOn 7 Z<|zc (jof_spec up v hu) Z<|z7<|zi<|zd (i := 10) Z (by kernel_rfl) (by kernel_rfl)<|zb j9 Z Z Z Z Z Z .t1 Z<|z7<|zd (i := 11) Z (by kernel_rfl) (by kernel_rfl)<|zb j9 Z Z Z Z Z Z .head Z<|zn (zj (zm .t2))<|zn (zj (zm .t1))<|zn (zj (zm .t2))<|z7<|zk (by kernel_rfl) ?_
     exact ⟨(i6, i7), (by repeat (first | with_reducible exact zr _ _ | refine zw rfl ?_ | exact zR1)), zR2, zLe, trivial⟩
   ·refine ze (cs := [.bool false, .int .i64 0]) jd Z Z<|fun i7 => z7<|yc (i := 7) (j := 8) Z Z (by kernel_rfl) ?_ ?_
    ·refine zc (jof_spec up v hu) Z<|z7<|zOn 8 Z<|ze (cs := [.bool false, .int .i64 0]) jd Z Z<|fun i6 => z7<|zi<|zd (i := 10) Z (by kernel_rfl) (by kernel_rfl)<|zb j9 Z Z Z Z Z Z .head Z<|z7<|zd (i := 11) Z (by kernel_rfl) (by kernel_rfl)<|zb j9 Z Z Z Z Z Z .t1 Z<|z7<|zk (by kernel_rfl) ?_
     exact ⟨(i6, i7), (by repeat (first | with_reducible exact zr _ _ | refine zw rfl ?_ | exact zR1)), zR2, zLe, trivial⟩
    ·refine ze (cs := [.bool false, .int .i64 0]) jd Z Z<|fun i6 => z7<|zOn 7 Z<|zc (jof_spec up v hu) Z<|z7<|zi<|zd (i := 10) Z (by kernel_rfl) (by kernel_rfl)<|zb j9 Z Z Z Z Z Z .head Z<|z7<|zd (i := 11) Z (by kernel_rfl) (by kernel_rfl)<|zb j9 Z Z Z Z Z Z .t1 Z<|z7<|zk (by kernel_rfl) ?_
     exact ⟨(i6, i7), (by repeat (first | with_reducible exact zr _ _ | refine zw rfl ?_ | exact zR1)), zR2, zLe, trivial⟩
  ·refine ze (cs := [.bool false, .int .i64 0]) jd Z Z<|fun i6 => z7<|yc (i := 3) (j := 9) Z Z (by kernel_rfl) ?_ ?_
   ·refine zc (jof_spec lo v hl) Z<|z7<|yc (i := 7) (j := 9) Z Z (by kernel_rfl) ?_ ?_
    ·refine zc (jof_spec up v hu) Z<|z7<|zOn 9 Z<|ze (cs := [.bool false, .int .i64 0]) jd Z Z<|fun i7 => z7<|zi<|zd (i := 10) Z (by kernel_rfl) (by kernel_rfl)<|zb j9 Z Z Z Z Z Z .t1 Z<|z7<|zd (i := 11) Z (by kernel_rfl) (by kernel_rfl)<|zb j9 Z Z Z Z Z Z .head Z<|zn (zj (zm .t2))<|zn (zj (zm .t1))<|zn (zj (zm .t2))<|z7<|zk (by kernel_rfl) ?_
     exact ⟨(i6, i7), (by repeat (first | with_reducible exact zr _ _ | refine zw rfl ?_ | exact zR1)), zR2, zLe, trivial⟩
    ·refine ze (cs := [.bool false, .int .i64 0]) jd Z Z<|fun i7 => z7<|zOn 7 Z<|zc (jof_spec up v hu) Z<|z7<|zi<|zd (i := 10) Z (by kernel_rfl) (by kernel_rfl)<|zb j9 Z Z Z Z Z Z .t1 Z<|z7<|zd (i := 11) Z (by kernel_rfl) (by kernel_rfl)<|zb j9 Z Z Z Z Z Z .head Z<|zn (zj (zm .t2))<|zn (zj (zm .t1))<|zn (zj (zm .t2))<|z7<|zk (by kernel_rfl) ?_
     exact ⟨(i6, i7), (by repeat (first | with_reducible exact zr _ _ | refine zw rfl ?_ | exact zR1)), zR2, zLe, trivial⟩
   ·refine ze (cs := [.bool false, .int .i64 0]) jd Z Z<|fun i7 => z7<|zOn 3 Z<|zc (jof_spec lo v hl) Z<|z7<|zOn 7 Z<|zc (jof_spec up v hu) Z<|z7<|zi<|zd (i := 10) Z (by kernel_rfl) (by kernel_rfl)<|zb j9 Z Z Z Z Z Z .t1 Z<|z7<|zd (i := 11) Z (by kernel_rfl) (by kernel_rfl)<|zb j9 Z Z Z Z Z Z .head Z<|zn (zj (zm .t2))<|zn (zj (zm .t1))<|zn (zj (zm .t2))<|z7<|zk (by kernel_rfl) ?_
    exact ⟨(i6, i7), (by repeat (first | with_reducible exact zr _ _ | refine zw rfl ?_ | exact zR1)), zR2, zLe, trivial⟩
  ·refine ze (cs := [.bool false, .int .i64 0]) jd Z Z<|fun i7 => z7<|yc (i := 3) (j := 8) Z Z (by kernel_rfl) ?_ ?_
   ·refine zc (jof_spec lo v hl) Z<|z7<|yc (i := 7) (j := 8) Z Z (by kernel_rfl) ?_ ?_
    ·refine zc (jof_spec up v hu) Z<|z7<|zOn 8 Z<|ze (cs := [.bool false, .int .i64 0]) jd Z Z<|fun i6 => z7<|zi<|zd (i := 10) Z (by kernel_rfl) (by kernel_rfl)<|zb j9 Z Z Z Z Z Z .head Z<|z7<|zd (i := 11) Z (by kernel_rfl) (by kernel_rfl)<|zb j9 Z Z Z Z Z Z .t1 Z<|z7<|zk (by kernel_rfl) ?_
     exact ⟨(i6, i7), (by repeat (first | with_reducible exact zr _ _ | refine zw rfl ?_ | exact zR1)), zR2, zLe, trivial⟩
    ·refine ze (cs := [.bool false, .int .i64 0]) jd Z Z<|fun i6 => z7<|zOn 7 Z<|zc (jof_spec up v hu) Z<|z7<|zi<|zd (i := 10) Z (by kernel_rfl) (by kernel_rfl)<|zb j9 Z Z Z Z Z Z .head Z<|z7<|zd (i := 11) Z (by kernel_rfl) (by kernel_rfl)<|zb j9 Z Z Z Z Z Z .t1 Z<|z7<|zk (by kernel_rfl) ?_
     exact ⟨(i6, i7), (by repeat (first | with_reducible exact zr _ _ | refine zw rfl ?_ | exact zR1)), zR2, zLe, trivial⟩
   ·refine ze (cs := [.bool false, .int .i64 0]) jd Z Z<|fun i6 => z7<|zOn 3 Z<|zc (jof_spec lo v hl) Z<|z7<|zOn 7 Z<|zc (jof_spec up v hu) Z<|z7<|zi<|zd (i := 10) Z (by kernel_rfl) (by kernel_rfl)<|zb j9 Z Z Z Z Z Z .head Z<|z7<|zd (i := 11) Z (by kernel_rfl) (by kernel_rfl)<|zb j9 Z Z Z Z Z Z .t1 Z<|z7<|zk (by kernel_rfl) ?_
    exact ⟨(i6, i7), (by repeat (first | with_reducible exact zr _ _ | refine zw rfl ?_ | exact zR1)), zR2, zLe, trivial⟩
 ·rintro ⟨i6, i7⟩ _
  refine yo (ye (t := 6) Z .head)<|yo (ye (t := 7) Z .head) ?_
  by_cases h0 : (bOf lo v).1 = true
  ·refine zg<|zy (fun j => Nat.beq j 11) (by kernel_rfl) Z (yd (.rest _))<|zTk 0 Z (zFF jc Z j6 Z Z)<|zTk 1 Z (zLi j8 Z)<|zTk 2 Z (zFF jc Z j6 Z Z)<|zTk 3 Z (zLi j8 Z)<|zTk 4 Z (zo (cps := [(0, [_]), (1, [_])]) (rs := [_, _]) pl89 Z Z Z)<|zt (i := 5) Z (by kernel_rfl) (by kernel_rfl) (by kernel_rfl) (by kernel_rfl) (zFF jc Z sizeOf4 Z Z)<|zt (i := 6) Z (by kernel_rfl) (by kernel_rfl) (by kernel_rfl) (by kernel_rfl) (Gv.load1F (c := .bool _) jw Z)<|zTk 7 Z (zMb Z)<|AAny.takeKT (i := 8) Z Z Z h0 (by kernel_rfl) (by kernel_rfl) (by kernel_rfl) (by kernel_rfl) (zFF jc Z sizeOf4 Z Z)<|AAny.takeKT (i := 9) Z Z Z h0 (by kernel_rfl) (by kernel_rfl) (by kernel_rfl) (by kernel_rfl) (Gv.load1F (c := .bool _) jw Z)<|zt (i := 10) Z (by kernel_rfl) (by kernel_rfl) (by kernel_rfl) (by kernel_rfl) (zPt Z h0 Z)<|zi<|zd (i := 11) Z (by kernel_rfl) (by kernel_rfl)<|zb ja Z Z Z Z Z Z .head Z<|z7<|zd (i := 12) Z (by kernel_rfl) (by kernel_rfl)<|zVzAb Z<|z7<|zk (by kernel_rfl)<|zf<|afin.c1t (y := .bool _) Z Z ⟨_, .head⟩ jl ja Z ?_
   rw [h0]; rfl
  ·refine zg<|zy (fun j => Nat.beq j 11) (by kernel_rfl) Z (yd (.rest _))<|zTk 0 Z (zFF jc Z j6 Z Z)<|zTk 1 Z (zLi j8 Z)<|zTk 2 Z (zFF jc Z j6 Z Z)<|zTk 3 Z (zLi j8 Z)<|zTk 4 Z (zo (cps := [(0, [_]), (1, [_])]) (rs := [_, _]) pl89 Z Z Z)<|zt (i := 5) Z (by kernel_rfl) (by kernel_rfl) (by kernel_rfl) (by kernel_rfl) (zFF jc Z sizeOf4 Z Z)<|zt (i := 6) Z (by kernel_rfl) (by kernel_rfl) (by kernel_rfl) (by kernel_rfl) (Gv.load1F (c := .bool _) jw Z)<|zTk 7 Z (zMb Z)<|AAny.takeKF (i := 8) Z Z Z (Bool.eq_false_iff.2 h0) (by kernel_rfl) (by kernel_rfl) (by kernel_rfl) (by kernel_rfl)<|AAny.takeKF (i := 9) Z Z Z (Bool.eq_false_iff.2 h0) (by kernel_rfl) (by kernel_rfl) (by kernel_rfl) (by kernel_rfl)<|zt (i := 10) Z (by kernel_rfl) (by kernel_rfl) (by kernel_rfl) (by kernel_rfl) (zPf Z (Bool.eq_false_iff.2 h0) Z)<|zi<|zd (i := 11) Z (by kernel_rfl) (by kernel_rfl)<|zb ja Z Z Z Z Z Z .head Z<|z7<|zd (i := 12) Z (by kernel_rfl) (by kernel_rfl)<|zVzAb Z<|z7<|zk (by kernel_rfl)<|zf<|afin.c1t (y := .bool _) Z Z ⟨_, .head⟩ jl ja Z ?_
   rw [Bool.eq_false_iff.2 h0]; rfl
end Go.Proofs.YthlpjaleclchgaaGreatDoor
namespace Go.Proofs.YthlpjaleclchgaaGreatDoor
open Go.Proofs.Tryz
open Go.Proofs Go.Lib Go.Shelf Go.RowKit
theorem pl99 : Places prog 99 #[(0, 1), (1, 1), (2, 1)] [.raw (.slice none 0 0), .raw (.slice none 0 0), .raw (.slice none 0 0)] := ⟨_, _, jm, zeroValue99, fun w => by kernel_rfl, rfl⟩
variable {E : World}
set_option maxRecDepth 20000
theorem chkNumJ_spec (op : Int) : AFun prog E 10 [.int .i64 op] (.int .i64 (if 18 ≤ op ∧ op ≤ 24 then op - 17 else 0)) := by
 refine zp func10 Z (by decide) Z<|zSr<|z6 (zAi Z)<|z7<|zg<|zSr<|zVzMi Z<|z6 (y9 Z Z)<|zVzMb Z<|y7 (s := 5) Z (fun c1=>?_) (fun c1=>?_)
 ·have h1 : op < 18 := by simpa using c1
  refine z8 Z Z c1<|z8 Z Z c1<|zVzPt Z c1 Z<|z7<|ya Z Z<|zSr<|z6 (zAi Z)<|z7<|zf<|zh (x := .int _ _) Z ?_
  rw [if_neg (by omega)]
 ·have h1 : ¬ op < 18 := by simpa using c1
  refine za Z Z c1<|zVzMi Z<|za Z Z c1<|z6 (yl Z Z)<|z6 (zPf Z c1 Z)<|z7<|AWP.cond Z (fun c2=>?_) (fun c2=>?_)
  ·have h2 : 24 < op := by simpa using c2
   refine zSr<|z6 (zAi Z)<|z7<|zf<|zh (x := .int _ _) Z ?_
   rw [if_neg (by omega)]
  ·have h2 : ¬ 24 < op := by simpa using c2
   refine zz<|zSr<|zVzMi Z<|z6 (Gv.sub Z Z (by unfold I64; omega))<|z6 (zAi Z)<|z7<|zf<|zh (x := .int _ _) Z ?_
   rw [if_pos (by omega)]
theorem iFitsJ (op : Int) (k : Nat) (hk : k ≤ 2) (hop : op = 21 + (k : Int)) {a b : Rng} (ha : ok64 a) (hb : ok64 b) : AFun prog E 43 [.int .i64 op, .agg (encZ a), .agg (encZ b)] (.bool (decide (a.2 < a.1 ∨ b.2 < b.1 ∨ cornF k a b))) := by
 have hcp := cornP_eq k a b
 have hop2 : 2 + op - 21 = 2 + (k : Int) := by omega
 refine zp func43 Z (by decide) Z<|zSr<|yi (cs := _) Z Z Z<|yi (cs := _) Z Z Z<|zVzAb Z<|z7<|zg<|zg<|AWP.cutS (γ := Bool) [0, 4, 5] (fun u => [(12, .bool u)]) (fun u => []) (fun u => u = true) ?_ (fun _ _ h => h) ?_
 ·refine zRg<|zVzMi Z<|z6 (Gv.geq Z Z)<|zVzMb Z<|y7 (s := 9) Z (fun c=>?_) (fun c=>?_)
  ·refine za Z Z c<|zVzMi Z<|za Z Z c<|z6 (Gv.leq Z Z)<|zVzPt Z c Z<|z7 ?_
   exact ⟨_, zR3, zR1, zLe, by simp_all <;> omega⟩
  ·exfalso; simp at c; omega
 ·rintro u hu
  subst hu
  refine ya Z Z<|zRg<|zVzMi Z<|z6 (zAd Z Z)<|z6 (Gv.sub Z Z (by unfold I64; omega))<|z6 (zAi Z)<|z7<|zSr<|zVzMi Z<|zc (iSums _) Z<|zVzMb Z<|y7 (s := 18) Z (fun c1=>?_) (fun c1=>?_)
  ·refine za Z Z c1<|z6 (zx jl ja Z Z)<|za Z Z c1<|zc (iEmpty _) Z<|za Z Z c1<|zVzMb Z<|y7 (s := 21) Z (fun c2=>?_) (fun c2=>?_)
   ·refine z8 Z Z c2<|z8 Z Z c2<|za Z Z c1<|zVzPt Z c2 Z<|za Z Z c1<|zVzMb Z<|z8 Z Z Z<|z8 Z Z Z<|z8 Z Z Z<|z8 Z Z Z<|z8 Z Z Z<|z8 Z Z Z<|za Z Z c1<|zVzPt Z Z Z<|zVzPt Z c1 Z<|zVzAb Z<|z7<|zf<|zh (x := .bool _) Z ?_
    exact jb (by simp_all)
   ·refine za Z Z c2<|z6 (zx jl ja Z Z)<|za Z Z c2<|zc (iEmpty _) Z<|za Z Z c1<|z6 (zPf Z c2 Z)<|za Z Z c1<|zVzMb Z<|y7 (s := 25) Z (fun c3=>?_) (fun c3=>?_)
    ·refine z8 Z Z c3<|z8 Z Z c3<|z8 Z Z c3<|z8 Z Z c3<|z8 Z Z c3<|z8 Z Z c3<|za Z Z c1<|zVzPt Z c3 Z<|zVzPt Z c1 Z<|zVzAb Z<|z7<|zf<|zh (x := .bool _) Z ?_
     exact jb (by simp_all)
    ·refine za Z Z c3<|zVzMi Z<|za Z Z c3<|z6 (zx jl ja Z Z)<|za Z Z c3<|z6 (zx jl ja Z Z)<|za Z Z c3<|zc (iCorners (2 + op - 21) k hk hop2 ha hb) Z<|za Z Z c3<|z6 (Gv.field1 (v := .bool _) underlying152 Z jw Z Z)<|za Z Z c3<|z6 (ym Z)<|za Z Z c1<|z6 (zPf Z c3 Z)<|zVzPt Z c1 Z<|zVzAb Z<|z7<|zf<|zh (x := .bool _) Z ?_
     exact jb (by have h2 : ¬ a.2 < a.1 := (by simpa using c2); have h3 : ¬ b.2 < b.1 := (by simpa using c3); simp [h2, h3, hcp])
  ·exfalso; simp at c1; omega
theorem arJ0 {x : PInst} (h : 0 < x.args.length) : x.args[0]? = some ((x.args[0]?).getD 0) := by rw [yr h]; rfl
theorem arJ1 {x : PInst} (h : 1 < x.args.length) : x.args[1]? = some ((x.args[1]?).getD 0) := by rw [yr h]; rfl
def aJ0 (x : PInst) : Int := (x.args[0]?).getD 0
def aJ1 (x : PInst) : Int := (x.args[1]?).getD 0
def fitJ (x : PInst) (lo up : List Bnd) : Bool := decide ((spanB lo up (aJ0 x)).2 < (spanB lo up (aJ0 x)).1 ∨ (spanB lo up (aJ1 x)).2 < (spanB lo up (aJ1 x)).1 ∨ cornF (x.op - 21).toNat (spanB lo up (aJ0 x)) (spanB lo up (aJ1 x)))
def judB (x : PInst) (lo up ov : List Bnd) : Bool :=
 if x.op = 18 then leastB lo (aJ1 x) 0 && ((bOf ov (aJ1 x)).1 && decide ((bOf ov (aJ1 x)).2 ≤ -1))
 else if x.op = 19 then leastB lo (aJ0 x) 1
 else if x.op = 20 then leastB lo (aJ0 x) 1 || mostB up (aJ0 x) (-1)
 else if x.op = 24 then leastB lo (aJ0 x) 0 && mostB up (aJ0 x) 64
 else (((bOf lo (aJ0 x)).1 && (bOf up (aJ0 x)).1) && ((bOf lo (aJ1 x)).1 && (bOf up (aJ1 x)).1)) && fitJ x lo up
def askJ (x : PInst) : Bool := (decide (18 ≤ x.op) && decide (x.op ≤ 24)) && decide (x.args.length = (takesL x.op).length)
theorem takes18 : (takesL 18).length = 2 ∧ (takesL 19).length = 1 ∧ (takesL 20).length = 1 ∧ (takesL 21).length = 2 ∧ (takesL 22).length = 2 ∧ (takesL 23).length = 2 ∧ (takesL 24).length = 1 := by decide +kernel
theorem askJ_len {x : PInst} (h1 : 18 ≤ x.op) (h2 : x.op ≤ 24) (h : x.args.length = (takesL x.op).length) : 0 < x.args.length ∧ (x.op = 18 ∨ (21 ≤ x.op ∧ x.op ≤ 23) → 1 < x.args.length) := by
 obtain ⟨t1, t2, t3, t4, t5, t6, t7⟩ := takes18
 have : x.op = 18 ∨ x.op = 19 ∨ x.op = 20 ∨ x.op = 21 ∨ x.op = 22 ∨ x.op = 23 ∨ x.op = 24 := by omega
 rcases this with e | e | e | e | e | e | e <;> (rw [e] at h; omega)
def ok64B (l : List Bnd) : Prop := ∀ b ∈ l, is64 b.2
theorem bOf_64 {l : List Bnd} (h : ok64B l) (v : Int) : is64 (bOf l v).2 := by
 unfold bOf
 split
 ·exact ⟨by decide, by decide⟩
 ·cases e : l[v.toNat]? with
  | none => exact ⟨by decide, by decide⟩
  | some b => exact h b (List.mem_of_getElem? e)
set_option maxHeartbeats 4000000 in
theorem judge_spec (x : PInst) (lo up ov : List Bnd) (hx : x.args.length ≤ 9223372036854775807) (h1 : lo.length ≤ 9223372036854775807) (h2 : up.length ≤ 9223372036854775807) (h3 : ov.length ≤ 9223372036854775807) (k1 : ok64B lo) (k2 : ok64B up) : AFun prog E 9 [.agg (encInst x), .fro 2 (lo.map encBd), .fro 2 (up.map encBd), .fro 2 (ov.map encBd)] (.bool (askJ x && judB x lo up ov)) := by
 have hle := fun v n => least_spec (E := E) lo up ov v n h1
 have hmo := fun v n => most_spec (E := E) lo up ov v n h2
 have hsp := fun v => span_spec (E := E) lo up ov v h1 h2
 unfold sdV at hle hmo hsp
 refine zp func9 Z (by decide) Z<|zSr<|yi (cs := _) Z Z Z<|zVzAb Z<|z7 ?_
 by_cases cc : (decide (18 ≤ x.op) && decide (x.op ≤ 24)) = true
 ·have ho : 18 ≤ x.op ∧ x.op ≤ 24 := by simpa using cc
  refine zg<|zg<|zy (fun j => false) (by kernel_rfl) Z (yd (.rest _))<|zTk 0 Z (zFF j7 Z ju Z Z)<|zTk 1 Z (zLi isAgg22 Z)<|zOn 2 Z<|zc (chkOp_spec x.op) Z<|z7<|zTk 3 Z (ym Z)<|zTk 4 Z (zMb Z)<|zTt 5 Z Z Z (by rw [cc]; rfl) (zFF j7 Z jn Z Z)<|zTt 6 Z Z Z (by rw [cc]; rfl) (zLf js Z)<|zTt 7 Z Z Z (by rw [cc]; rfl) (Gv.lenM jg Z)<|zTt 8 Z Z Z (by rw [cc]; rfl) (zFF j7 Z ju Z Z)<|zTt 9 Z Z Z (by rw [cc]; rfl) (zLi isAgg22 Z)<|zOn 10 Z<|za Z Z (by rw [cc]; rfl)<|zc (takes_spec x.op) Z<|z7<|zTt 11 Z Z Z (by rw [cc]; rfl) (Gv.lenM underlying96 Z)<|zTt 12 Z Z Z (by rw [cc]; rfl) (Gv.neqI Z Z)<|zTk 13 Z (zPf Z (by rw [cc]; rfl) Z)<|zDn<|AWP.cond Z (fun ca=>?_) (fun ca=>?_)
  ·have ca : ¬ x.args.length = (takesL x.op).length := by simp at ca; omega
   have hask : askJ x = false := by unfold askJ; rw [decide_eq_false ca, Bool.and_false]
   refine zSr<|zVzAb Z<|z7<|zf<|zh (x := .bool _) Z ?_
   rw [hask]; rfl
  ·have ca : x.args.length = (takesL x.op).length := by simp at ca; omega
   have hask : askJ x = true := by unfold askJ; rw [cc, decide_eq_true ca]; rfl
   obtain ⟨l0, l1⟩ := askJ_len ho.1 ho.2 ca
   rw [hask, Bool.true_and]
   refine zz<|zg<|zy (fun j => Nat.beq j 9) (by kernel_rfl) Z (yd (.rest _))<|zTk 0 Z (zMf Z)<|zTk 1 Z (zMf Z)<|zTk 2 Z (zMf Z)<|zTk 3 Z (zo (cps := [(0, [_]), (1, [_]), (2, [_])]) (rs := [_, _, _]) pl99 Z Z Z)<|zt (i := 4) Z (by kernel_rfl) (by kernel_rfl) (by kernel_rfl) (by kernel_rfl) (zFF j7 Z jn Z Z)<|zt (i := 5) Z (by kernel_rfl) (by kernel_rfl) (by kernel_rfl) (by kernel_rfl) (zLf js Z)<|zt (i := 6) Z (by kernel_rfl) (by kernel_rfl) (by kernel_rfl) (by kernel_rfl) (zIM 0 jg je Z Z Z (arJ0 l0))<|zt (i := 7) Z (by kernel_rfl) (by kernel_rfl) (by kernel_rfl) (by kernel_rfl) (zLi jf Z)<|zOn 8 Z<|ze (cs := [.raw (.slice none 0 0), .raw (.slice none 0 0), .raw (.slice none 0 0)]) zeroValue99 Z Z<|fun i9 => z7<|zi<|zd (i := 9) Z (by kernel_rfl) (by kernel_rfl)<|zb jr Z Z Z Z Z Z .head Z<|z7<|zd (i := 10) Z (by kernel_rfl) (by kernel_rfl)<|z6 (zAi Z)<|z7<|zk (by kernel_rfl)<|yo (ye (t := 9) Z .head)<|zg<|zSr<|zVzFF j7 Z ju Z Z<|zVzLi isAgg22 Z<|z7 ?_
   by_cases e18 : x.op = 18
   ·have hj : judB x lo up ov = (leastB lo (aJ1 x) 0 && ((bOf ov (aJ1 x)).1 && decide ((bOf ov (aJ1 x)).2 ≤ -1))) := if_pos e18
    rw [hj]
    refine yf<|zSr<|z6 (zq Z Z)<|zVzAb Z<|z7<|ya Z (by rw [e18]; rfl)<|zSr<|z6 (zMf Z)<|zVzFF j7 Z jn Z Z<|z6 (zLf js Z)<|z6 (zIM 1 jg je Z Z Z (arJ1 (l1 (.inl e18))))<|zVzLi jf Z<|zc (jof_spec ov (aJ1 x) h3) Z<|ze (cs := [.bool false, .int .i64 0]) jd Z Z<|fun i11 => zb j9 Z Z Z Z Z Z .head Z<|z7<|yo (ye (t := 11) Z .head) ?_
    by_cases b1 : leastB lo (aJ1 x) 0 = true
    ·refine zg<|zy (fun j => false) (by kernel_rfl) Z (yd (.rest _))<|zTk 0 Z (zx jv jr Z Z)<|zTk 1 Z (zFF j7 Z jn Z Z)<|zTk 2 Z (zLf js Z)<|zTk 3 Z (zIM 1 jg je Z Z Z (arJ1 (l1 (.inl e18))))<|zTk 4 Z (zLi jf Z)<|zOn 5 Z<|zc (hle (aJ1 x) 0) Z<|z7<|zTk 6 Z (zMb Z) ?_
     by_cases b2 : (bOf ov (aJ1 x)).1 = true
     ·refine zTt 7 Z Z Z b1 (zFF jc Z sizeOf4 Z Z)<|zTt 8 Z Z Z b1 (Gv.load1F (c := .bool _) jw Z)<|zTk 9 Z (zPt Z b1 Z)<|zTk 10 Z (zMb Z)<|zTt 11 Z Z Z b2 (zFF jc Z j6 Z Z)<|zTt 12 Z Z Z b2 (zLi j8 Z)<|zTt 13 Z Z Z b2 (Gv.leq Z Z)<|zTk 14 Z (zPt Z b2 Z)<|zTk 15 Z (zAb Z)<|zDn<|zf<|zh (x := .bool _) Z ?_
      rw [b1, b2]; exact jb (by simp)
     ·refine zTt 7 Z Z Z b1 (zFF jc Z sizeOf4 Z Z)<|zTt 8 Z Z Z b1 (Gv.load1F (c := .bool _) jw Z)<|zTk 9 Z (zPt Z b1 Z)<|zTk 10 Z (zMb Z)<|zTf 11 Z Z Z (Bool.eq_false_iff.2 b2)<|zTf 12 Z Z Z (Bool.eq_false_iff.2 b2)<|zTf 13 Z Z Z (Bool.eq_false_iff.2 b2)<|zTk 14 Z (zPf Z (Bool.eq_false_iff.2 b2) Z)<|zTk 15 Z (zAb Z)<|zDn<|zf<|zh (x := .bool _) Z ?_
      rw [b1, Bool.eq_false_iff.2 b2]; rfl
    ·refine zg<|zy (fun j => false) (by kernel_rfl) Z (yd (.rest _))<|zTk 0 Z (zx jv jr Z Z)<|zTk 1 Z (zFF j7 Z jn Z Z)<|zTk 2 Z (zLf js Z)<|zTk 3 Z (zIM 1 jg je Z Z Z (arJ1 (l1 (.inl e18))))<|zTk 4 Z (zLi jf Z)<|zOn 5 Z<|zc (hle (aJ1 x) 0) Z<|z7<|zTk 6 Z (zMb Z)<|zTf 7 Z Z Z (Bool.eq_false_iff.2 b1)<|zTf 8 Z Z Z (Bool.eq_false_iff.2 b1)<|zTk 9 Z (zPf Z (Bool.eq_false_iff.2 b1) Z)<|zTk 10 Z (zMb Z)<|zTf 11 Z Z Z Z<|zTf 12 Z Z Z Z<|zTf 13 Z Z Z Z<|zTk 14 Z (zPf Z Z Z)<|zTk 15 Z (zAb Z)<|zDn<|zf<|zh (x := .bool _) Z ?_
     rw [Bool.eq_false_iff.2 b1]; rfl
   ·refine yf<|zSr<|z6 (zq Z Z)<|zVzAb Z<|z7<|yq Z (by simpa using e18) ?_
    by_cases e19 : x.op = 19
    ·have hj : judB x lo up ov = leastB lo (aJ0 x) 1 := by unfold judB; rw [if_neg e18, if_pos e19]
     rw [hj]
     refine zSr<|z6 (zq Z Z)<|zVzAb Z<|z7<|ya Z (by rw [e19]; rfl)<|zSr<|z6 (zx jv jr Z Z)<|zVzMi Z<|zc (hle (aJ0 x) 1) Z<|zVzAb Z<|z7<|zf<|zh (x := .bool _) Z ?_
     rfl
    ·refine zSr<|z6 (zq Z Z)<|zVzAb Z<|z7<|yq Z (by simpa using e19) ?_
     by_cases e20 : x.op = 20
     ·have hj : judB x lo up ov = (leastB lo (aJ0 x) 1 || mostB up (aJ0 x) (-1)) := by unfold judB; rw [if_neg e18, if_neg e19, if_pos e20]
      rw [hj]
      refine zSr<|z6 (zq Z Z)<|zVzAb Z<|z7<|ya Z (by rw [e20]; rfl) ?_
      by_cases b1 : leastB lo (aJ0 x) 1 = true
      ·refine zSr<|z6 (zx jv jr Z Z)<|zVzMi Z<|zc (hle (aJ0 x) 1) Z<|zVzMb Z<|z8 Z Z b1<|z8 Z Z b1<|z8 Z Z b1<|zVzPt Z b1 Z<|zVzAb Z<|z7<|zf<|zh (x := .bool _) Z ?_
       rw [b1]; rfl
      ·refine zSr<|z6 (zx jv jr Z Z)<|zVzMi Z<|zc (hle (aJ0 x) 1) Z<|zVzMb Z<|za Z Z (Bool.eq_false_iff.2 b1)<|z6 (zx jv jr Z Z)<|za Z Z (Bool.eq_false_iff.2 b1)<|zVzMi Z<|za Z Z (Bool.eq_false_iff.2 b1)<|zc (hmo (aJ0 x) (-1)) Z<|z6 (zPf Z (Bool.eq_false_iff.2 b1) Z)<|zVzAb Z<|z7<|zf<|zh (x := .bool _) Z ?_
       rw [Bool.eq_false_iff.2 b1]; rfl
     ·refine zSr<|z6 (zq Z Z)<|zVzAb Z<|z7<|yq Z (by simpa using e20) ?_
      by_cases e24 : x.op = 24
      ·have hj : judB x lo up ov = (leastB lo (aJ0 x) 0 && mostB up (aJ0 x) 64) := by unfold judB; rw [if_neg e18, if_neg e19, if_neg e20, if_pos e24]
       rw [hj]
       refine zSr<|z6 (zq Z Z)<|zVzAb Z<|z7<|ya Z (by rw [e24]; rfl) ?_
       by_cases b1 : leastB lo (aJ0 x) 0 = true
       ·refine zSr<|z6 (zx jv jr Z Z)<|zVzMi Z<|zc (hle (aJ0 x) 0) Z<|zVzMb Z<|za Z Z b1<|z6 (zx jv jr Z Z)<|za Z Z b1<|zVzMi Z<|za Z Z b1<|zc (hmo (aJ0 x) 64) Z<|zVzPt Z b1 Z<|zVzAb Z<|z7<|zf<|zh (x := .bool _) Z ?_
        rw [b1]; rfl
       ·refine zSr<|z6 (zx jv jr Z Z)<|zVzMi Z<|zc (hle (aJ0 x) 0) Z<|zVzMb Z<|z8 Z Z (Bool.eq_false_iff.2 b1)<|z8 Z Z (Bool.eq_false_iff.2 b1)<|z8 Z Z (Bool.eq_false_iff.2 b1)<|z6 (zPf Z (Bool.eq_false_iff.2 b1) Z)<|zVzAb Z<|z7<|zf<|zh (x := .bool _) Z ?_
        rw [Bool.eq_false_iff.2 b1]; rfl
      ·have hj : judB x lo up ov = ((((bOf lo (aJ0 x)).1 && (bOf up (aJ0 x)).1) && ((bOf lo (aJ1 x)).1 && (bOf up (aJ1 x)).1)) && fitJ x lo up) := by unfold judB; rw [if_neg e18, if_neg e19, if_neg e20, if_neg e24]
       have l2 := l1 (.inr (by omega))
       obtain ⟨k, hk⟩ : ∃ k : Nat, x.op = 21 + (k : Int) := ⟨(x.op - 21).toNat, by omega⟩
       have hk2 : k ≤ 2 := by omega
       have hkt : (x.op - 21).toNat = k := by omega
       have hfit := iFitsJ (E := E) x.op k hk2 hk (a := spanB lo up (aJ0 x)) (b := spanB lo up (aJ1 x)) ⟨bOf_64 k1 _, bOf_64 k2 _⟩ ⟨bOf_64 k1 _, bOf_64 k2 _⟩
       have hff : decide ((spanB lo up (aJ0 x)).2 < (spanB lo up (aJ0 x)).1 ∨ (spanB lo up (aJ1 x)).2 < (spanB lo up (aJ1 x)).1 ∨ cornF k (spanB lo up (aJ0 x)) (spanB lo up (aJ1 x))) = fitJ x lo up := by unfold fitJ; rw [hkt]
       rw [hff] at hfit
       rw [hj]
       refine zSr<|z6 (zq Z Z)<|zVzAb Z<|z7<|yq Z (by simpa using e24)<|zz<|zSr<|z6 (zx jv jr Z Z)<|zVzMi Z<|zc (hsp (aJ0 x)) Z<|z6 (zMu Z)<|z6 (Gv.extract (v := .agg _) Z Z)<|z6 (zXb Z Z)<|ze (cs := [.int .i64 0, .int .i64 0]) jo Z Z<|fun i12 => zb ja Z Z Z Z Z Z .head Z<|zVzAb Z<|z7<|yo (ye (t := 12) Z .head)<|zg<|AWP.cutS (γ := Nat) [4, 12, 13] (fun g => [(14, .po g 0), (15, .bool ((bOf lo (aJ1 x)).1 && (bOf up (aJ1 x)).1))]) (fun g => [(g, .cells 89 (encZ (spanB lo up (aJ1 x))))]) (fun g => True) ?_ (fun _ _ h => h) ?_
       ·refine zy (fun j => Nat.beq j 10) (by kernel_rfl) Z (yd (.rest _))<|zTk 0 Z (zx jv jr Z Z)<|zTk 1 Z (zFF j7 Z jn Z Z)<|zTk 2 Z (zLf js Z)<|zTk 3 Z (zIM 1 jg je Z Z Z (arJ1 l2))<|zTk 4 Z (zLi jf Z)<|yc (i := 5) (j := 9) Z Z (by kernel_rfl) ?_ ?_
        ·refine zc (hsp (aJ1 x)) Z<|z7<|zTk 6 Z (zMu Z)<|zTk 7 Z (Gv.extract (v := .agg _) Z Z)<|zt (i := 8) Z (by kernel_rfl) (by kernel_rfl) (by kernel_rfl) (by kernel_rfl) (zXb Z Z)<|zOn 9 Z<|ze (cs := [.int .i64 0, .int .i64 0]) jo Z Z<|fun i14 => z7<|zi<|zd (i := 10) Z (by kernel_rfl) (by kernel_rfl)<|zb ja Z Z Z Z Z Z .head Z<|z7<|zd (i := 11) Z (by kernel_rfl) (by kernel_rfl)<|zVzAb Z<|z7<|zk (by kernel_rfl) ?_
         exact ⟨i14, (by repeat (first | with_reducible exact zr _ _ | refine zw rfl ?_ | exact zR3)), zR2, zLe, trivial⟩
        ·refine ze (cs := [.int .i64 0, .int .i64 0]) jo Z Z<|fun i14 => z7<|zOn 5 Z<|zc (hsp (aJ1 x)) Z<|z7<|zTk 6 Z (zMu Z)<|zTk 7 Z (Gv.extract (v := .agg _) Z Z)<|zt (i := 8) Z (by kernel_rfl) (by kernel_rfl) (by kernel_rfl) (by kernel_rfl) (zXb Z Z)<|zi<|zd (i := 10) Z (by kernel_rfl) (by kernel_rfl)<|zb ja Z Z Z Z Z Z .head Z<|z7<|zd (i := 11) Z (by kernel_rfl) (by kernel_rfl)<|zVzAb Z<|z7<|zk (by kernel_rfl) ?_
         exact ⟨i14, (by repeat (first | with_reducible exact zr _ _ | refine zw rfl ?_ | exact zR3)), zR2, zLe, trivial⟩
       ·rintro i14 _
        refine yo (ye (t := 14) Z .head) ?_
        by_cases b1 : ((bOf lo (aJ0 x)).1 && (bOf up (aJ0 x)).1) = true
        ·refine zSr<|zVzMb Z<|zVzMb Z ?_
         by_cases b2 : ((bOf lo (aJ1 x)).1 && (bOf up (aJ1 x)).1) = true
         ·refine za Z Z b1<|zVzMb Z<|zVzPt Z b1 Z<|zVzMb Z<|za Z Z b2<|zVzFF j7 Z ju Z Z<|za Z Z b2<|zVzLi isAgg22 Z<|za Z Z b2<|z6 (zx jl ja Z Z)<|za Z Z b2<|z6 (zx jl ja Z Z)<|za Z Z b2<|zc (hfit) Z<|zVzPt Z b2 Z<|zVzAb Z<|z7<|zf<|zh (x := .bool _) Z ?_
          rw [b1, b2]; rfl
         ·refine za Z Z b1<|zVzMb Z<|zVzPt Z b1 Z<|zVzMb Z<|z8 Z Z (Bool.eq_false_iff.2 b2)<|z8 Z Z (Bool.eq_false_iff.2 b2)<|z8 Z Z (Bool.eq_false_iff.2 b2)<|z8 Z Z (Bool.eq_false_iff.2 b2)<|z8 Z Z (Bool.eq_false_iff.2 b2)<|z6 (zPf Z (Bool.eq_false_iff.2 b2) Z)<|zVzAb Z<|z7<|zf<|zh (x := .bool _) Z ?_
          rw [b1, Bool.eq_false_iff.2 b2]; rfl
        ·refine zSr<|zVzMb Z<|zVzMb Z<|z8 Z Z (Bool.eq_false_iff.2 b1)<|z6 (zPf Z (Bool.eq_false_iff.2 b1) Z)<|zVzMb Z<|z8 Z Z Z<|z8 Z Z Z<|z8 Z Z Z<|z8 Z Z Z<|z8 Z Z Z<|z6 (zPf Z Z Z)<|zVzAb Z<|z7<|zf<|zh (x := .bool _) Z ?_
         rw [Bool.eq_false_iff.2 b1]; rfl
 ·have hask : askJ x = false := by unfold askJ; rw [Bool.eq_false_iff.2 cc]; rfl
  refine zg<|zg<|zy (fun j => false) (by kernel_rfl) Z (yd (.rest _))<|zTk 0 Z (zFF j7 Z ju Z Z)<|zTk 1 Z (zLi isAgg22 Z)<|zOn 2 Z<|zc (chkOp_spec x.op) Z<|z7<|zTk 3 Z (ym Z)<|zTk 4 Z (zMb Z)<|zTf 5 Z Z Z (by rw [Bool.eq_false_iff.2 cc] <;> rfl)<|zTf 6 Z Z Z (by rw [Bool.eq_false_iff.2 cc] <;> rfl)<|zTf 7 Z Z Z (by rw [Bool.eq_false_iff.2 cc] <;> rfl)<|zTf 8 Z Z Z (by rw [Bool.eq_false_iff.2 cc] <;> rfl)<|zTf 9 Z Z Z (by rw [Bool.eq_false_iff.2 cc] <;> rfl)<|zTf 10 Z Z Z (by rw [Bool.eq_false_iff.2 cc] <;> rfl)<|zTf 11 Z Z Z (by rw [Bool.eq_false_iff.2 cc] <;> rfl)<|zTf 12 Z Z Z (by rw [Bool.eq_false_iff.2 cc] <;> rfl)<|zTk 13 Z (zPt Z (by rw [Bool.eq_false_iff.2 cc] <;> rfl) Z)<|zDn<|ya Z Z<|zSr<|zVzAb Z<|z7<|zf<|zh (x := .bool _) Z ?_
  rw [hask]; rfl
end Go.Proofs.YthlpjaleclchgaaGreatDoor
