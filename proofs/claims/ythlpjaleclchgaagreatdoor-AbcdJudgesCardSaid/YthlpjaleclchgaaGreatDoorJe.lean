/- The document's answer whether a check is proved with bounds; the law AbcdJudges, given its example. No conditions but bounds. -/
import Derived.Test.YthlpjaleclchgaaGreatDoorJd
set_option linter.unusedVariables false
set_option linter.unusedSimpArgs false
set_option linter.unusedSectionVars false
namespace Go.Proofs.YthlpjaleclchgaaGreatDoor
open Go.Proofs.Tryz
open Go.Proofs Go.Lib Go.Shelf Go.RowKit
theorem ps35_1 : PlacesS prog 35 106 1 2 [.int .i64 0, .int .i64 0] := ⟨_, jp, j4, j5, by decide, by decide, by kernel_rfl⟩
theorem pl109 : Places prog 109 #[(0, 1), (1, 1)] [.int .i64 0, .int .i64 0] := ⟨_, _, jk, zeroValue109, fun w => by kernel_rfl, rfl⟩
variable {E : World}
set_option maxRecDepth 20000
theorem mk_flat (l : List Bnd) : ((l.map encMk).flatten).length = l.length * 2 := grow_len (k := 2) (fun _ => rfl) l
theorem marks_spec (l : List Bnd) (hl : l.length ≤ 1000) : AFun prog E 13 [.fro 2 (l.map encBd)] (.fro 2 (l.map encMk)) := by
 refine zp func13 Z (by decide) Z<|zSr<|z6 (zAr Z)<|z7<|zSr<|z6 (zAr Z)<|z7<|adopt_wp (t := 3) (k := 2) (T := 106) Z<|fun i3 => zg<|zSr<|z6 (zMf Z)<|z6 (Gv.lenM ji Z)<|zVzMi Z<|z7<|yf<|AWP.loop (γ := Nat × Nat) [7, 8] (fun g => [(9, .int .i64 g.1), (3, .own g.2 g.1)]) (fun g => [(g.2, .grow 2 106 (((l.take g.1).map encMk).flatten))]) (fun g => g.1 ≤ l.length) (fun g => l.length - g.1) (0, i3) zR2 zLe (Nat.zero_le _) ?_
 rintro ⟨k, ia⟩ hk
 try dsimp only at *
 refine zSr<|z6 (y9 Z Z)<|z7<|zg<|yh Z (fun ck=>?_) (fun ck=>?_)
 ·have hk2 : k < l.length := by simp at ck; omega
  obtain ⟨b, hb⟩ : ∃ b, l[k]? = some b := ⟨_, yr hk2⟩
  have htl : (l.take k).length = k := by rw [List.length_take]; omega
  have hfl := mk_flat (l.take k)
  rw [htl] at hfl
  have hpush : ((l.take (k + 1)).map encMk).flatten = ((l.take k).map encMk).flatten ++ encMk b := by rw [List.take_add_one, hb]; simp
  refine zz<|zg<|yf<|zSr<|z6 (zIM k ji j9 Z Z Z hb)<|z6 (zx isAgg94 j9 Z Z)<|ze (cs := [.bool false, .int .i64 0]) jd Z Z<|fun i5 => zb j9 Z Z Z Z Z Z .head Z<|z7<|yo (ye (t := 5) Z .head)<|zSr<|z6 (zo (cps := [(0, [_])]) (rs := [_, .int .i64 0]) pl106 Z Z Z)<|ze (cs := [.int .i64 0, .int .i64 0]) j5 Z Z<|fun i6 => zb j4 Z Z Z Z Z Z .head Z<|z7<|zg<|zSr<|zVzFF jc Z sizeOf4 Z Z<|z6 (Gv.load1F (c := .bool _) jw Z)<|z7 ?_
  by_cases h1 : b.1 = true
  ·have hm : encMk b = [.int .i64 1, .int .i64 b.2] := by unfold encMk; rw [if_pos h1, if_pos h1]
   rw [hm] at hpush
   refine ya Z h1<|zRg<|zVzFF jc Z j6 Z Z<|zVzLi j8 Z<|z6 (zo (cps := [(0, [_]), (1, [_])]) (rs := [_, _]) pl106 Z Z Z)<|zb j4 Z Z Z Z Z Z .head Z<|z7<|zRg<|z6 (zMo Z)<|z6 (Gv.loadWC isAgg106 j4 Z ⟨_, .head⟩ Z)<|AOps.buildSliceFF (rows := [[_, _]]) ps35_1 Z Z Z Z Z<|AOps.appendS (k := 2) jp type106 Z Z Z Z Z (fun _ => .t1) hfl (by decide) Z (by show (_ + _) * 16 ≤ _; simp <;> omega) (by simp <;> omega)<|fun i22 => z6 (zAo Z)<|z7<|zRg<|z6 (zAd Z Z)<|zVzMi Z<|z7 ?_
   exact ⟨(k + 1, i22), zR2, zR2, ⟨_, (.drop (.refl _)), by dsimp only; rw [hpush]; rfl⟩, hk2, by dsimp only; omega⟩
  ·have hm : encMk b = [.int .i64 2, .int .i64 0] := by unfold encMk; rw [if_neg h1, if_neg h1]
   rw [hm] at hpush
   refine yq Z (Bool.eq_false_iff.2 h1)<|zz<|zRg<|z6 (zMo Z)<|z6 (Gv.loadWC isAgg106 j4 Z ⟨_, .head⟩ Z)<|AOps.buildSliceFF (rows := [[_, _]]) ps35_1 Z Z Z Z Z<|AOps.appendS (k := 2) jp type106 Z Z Z Z Z (fun _ => .t1) hfl (by decide) Z (by show (_ + _) * 16 ≤ _; simp <;> omega) (by simp <;> omega)<|fun i22 => z6 (zAo Z)<|z7<|zRg<|z6 (zAd Z Z)<|zVzMi Z<|z7 ?_
   exact ⟨(k + 1, i22), zR2, zR2, ⟨_, (.drop (.refl _)), by dsimp only; rw [hpush]; rfl⟩, hk2, by dsimp only; omega⟩
 ·obtain rfl : k = l.length := by simp at ck; omega
  rw [List.take_length]
  refine yo (GStep.know (t := 3) (rows := l.map encMk) Z .head (by first | (intro r hr; obtain ⟨x, _, rfl⟩ := List.mem_map.1 hr; rfl) | simp [encI, encVar, encPhi, encInst, encBlk]) (by decide) (by simp))<|AWP.exit<|zSr<|z6 (zMf Z)<|z6 (zAf Z)<|z7<|zf<|zh (x := .fro _ _) Z ?_
  rfl
abbrev nM (b : Bnd) : Int := if b.1 = true then b.2 else 0
theorem rFitsJ (k0 : Int) {k : Nat} (hk : k ≤ 2) (he : k0 = (k : Int)) {a b : Rng} (ha : ok64 a) (hb : ok64 b) : AFun prog E 45 [.int .i64 k0, .agg (encZ a), .agg (encZ b)] (.bool (decide (cornF k a b))) := by subst he; exact rFits hk ha hb
theorem nM_64 {l : List Bnd} (h : ok64B l) (v : Int) : is64 (nM (bOf l v)) := by
 unfold nM
 split
 ·exact bOf_64 h v
 ·exact ⟨by decide, by decide⟩
set_option maxHeartbeats 4000000 in
theorem rjudge_spec (x : PInst) (lo up ov : List Bnd) (ha : askJ x = true) (hx : x.args.length ≤ 9223372036854775807) (h1 : lo.length ≤ 9223372036854775807) (h2 : up.length ≤ 9223372036854775807) (h3 : ov.length ≤ 9223372036854775807) (k1 : ok64B lo) (k2 : ok64B up) : AFun prog E 12 [.agg (encInst x), .fro 2 (lo.map encMk), .fro 2 (up.map encMk), .fro 2 (ov.map encMk)] (.bool (judB x lo up ov)) := by
 have ha2 : (18 ≤ x.op ∧ x.op ≤ 24) ∧ x.args.length = (takesL x.op).length := by unfold askJ at ha; simpa using ha
 obtain ⟨ho, ca⟩ := ha2
 obtain ⟨l0, l1⟩ := askJ_len ho.1 ho.2 ca
 refine zp func12 Z (by decide) Z<|zSr<|yi (cs := _) Z Z Z<|zVzAb Z<|z7<|zSr<|zVzFF j7 Z jn Z Z<|z6 (zLf js Z)<|z6 (zIM 0 jg je Z Z Z (arJ0 l0))<|zVzLi jf Z<|z6 (zAi Z)<|z7<|zSr<|z6 (zMf Z)<|zVzMi Z<|zc (rjof_spec lo (aJ0 x) h1) Z<|z6 (zMf Z)<|zVzMi Z<|zc (rjof_spec up (aJ0 x) h2) Z<|ze (cs := [.int .i64 0, .int .i64 0]) j5 Z Z<|fun i10 => ze (cs := [.int .i64 0, .int .i64 0]) j5 Z Z<|fun i11 => zb j4 Z Z Z Z Z Z .t1 Z<|zb j4 Z Z Z Z Z Z .head Z<|z7<|yo (ye (t := 10) Z .t1)<|yo (ye (t := 11) Z .head)<|zg<|zSr<|zVzFF j7 Z ju Z Z<|zVzLi isAgg22 Z<|z7 ?_
 by_cases e18 : x.op = 18
 ·have hj : judB x lo up ov = (leastB lo (aJ1 x) 0 && ((bOf ov (aJ1 x)).1 && decide ((bOf ov (aJ1 x)).2 ≤ -1))) := if_pos e18
  rw [hj]
  refine yf<|zSr<|z6 (zq Z Z)<|zVzAb Z<|z7<|ya Z (by rw [e18]; rfl)<|zg<|AWP.cutS (γ := Nat × Nat) [] (fun g => [(12, .po g.1 0), (13, .po g.2 0)]) (fun g => [(g.1, .cells 106 (encMk (bOf lo (aJ1 x)))), (g.2, .cells 106 (encMk (bOf ov (aJ1 x))))]) (fun g => True) ?_ (fun _ _ h => h) ?_
  ·refine zy (fun j => Nat.beq j 14 || Nat.beq j 15) (by kernel_rfl) Z (yd (.rest _))<|zTk 0 Z (zMf Z)<|zTk 1 Z (zFF j7 Z jn Z Z)<|zTk 2 Z (zLf js Z)<|zTk 3 Z (zIM 1 jg je Z Z Z (arJ1 (l1 (.inl e18))))<|zTk 4 Z (zLi jf Z)<|zt (i := 6) Z (by kernel_rfl) (by kernel_rfl) (by kernel_rfl) (by kernel_rfl) (zMf Z)<|zt (i := 7) Z (by kernel_rfl) (by kernel_rfl) (by kernel_rfl) (by kernel_rfl) (zFF j7 Z jn Z Z)<|zt (i := 8) Z (by kernel_rfl) (by kernel_rfl) (by kernel_rfl) (by kernel_rfl) (zLf js Z)<|zt (i := 9) Z (by kernel_rfl) (by kernel_rfl) (by kernel_rfl) (by kernel_rfl) (zIM 1 jg je Z Z Z (arJ1 (l1 (.inl e18))))<|zt (i := 10) Z (by kernel_rfl) (by kernel_rfl) (by kernel_rfl) (by kernel_rfl) (zLi jf Z)<|AAny.three (i := 5) (j := 12) (m := 13) Z Z Z (by kernel_rfl) ?_ ?_ ?_
   ·refine zc (rjof_spec lo (aJ1 x) h1) Z<|z7<|AAny.three (i := 11) (j := 12) (m := 13) Z Z Z (by kernel_rfl) ?_ ?_ ?_
    ·refine zc (rjof_spec ov (aJ1 x) h3) Z<|z7<|yc (i := 12) (j := 13) Z Z (by kernel_rfl) ?_ ?_
     ·refine ze (cs := [.int .i64 0, .int .i64 0]) j5 Z Z<|fun i12 => z7<|zOn 13 Z<|ze (cs := [.int .i64 0, .int .i64 0]) j5 Z Z<|fun i13 => z7<|zi<|zd (i := 14) Z (by kernel_rfl) (by kernel_rfl)<|zb j4 Z Z Z Z Z Z .t1 Z<|z7<|zd (i := 15) Z (by kernel_rfl) (by kernel_rfl)<|zb j4 Z Z Z Z Z Z .head Z<|zn (zj (zm .head))<|zn (zj (zm .t1))<|z7<|zk (by kernel_rfl) ?_
      exact ⟨(i12, i13), trivial, zR2, zLe, trivial⟩
     ·refine ze (cs := [.int .i64 0, .int .i64 0]) j5 Z Z<|fun i13 => z7<|zOn 12 Z<|ze (cs := [.int .i64 0, .int .i64 0]) j5 Z Z<|fun i12 => z7<|zi<|zd (i := 14) Z (by kernel_rfl) (by kernel_rfl)<|zb j4 Z Z Z Z Z Z .head Z<|z7<|zd (i := 15) Z (by kernel_rfl) (by kernel_rfl)<|zb j4 Z Z Z Z Z Z .t1 Z<|z7<|zk (by kernel_rfl) ?_
      exact ⟨(i12, i13), trivial, zR2, zLe, trivial⟩
    ·refine ze (cs := [.int .i64 0, .int .i64 0]) j5 Z Z<|fun i12 => z7<|yc (i := 11) (j := 13) Z Z (by kernel_rfl) ?_ ?_
     ·refine zc (rjof_spec ov (aJ1 x) h3) Z<|z7<|zOn 13 Z<|ze (cs := [.int .i64 0, .int .i64 0]) j5 Z Z<|fun i13 => z7<|zi<|zd (i := 14) Z (by kernel_rfl) (by kernel_rfl)<|zb j4 Z Z Z Z Z Z .t1 Z<|z7<|zd (i := 15) Z (by kernel_rfl) (by kernel_rfl)<|zb j4 Z Z Z Z Z Z .head Z<|zn (zj (zm .head))<|zn (zj (zm .t1))<|z7<|zk (by kernel_rfl) ?_
      exact ⟨(i12, i13), trivial, zR2, zLe, trivial⟩
     ·refine ze (cs := [.int .i64 0, .int .i64 0]) j5 Z Z<|fun i13 => z7<|zOn 11 Z<|zc (rjof_spec ov (aJ1 x) h3) Z<|z7<|zi<|zd (i := 14) Z (by kernel_rfl) (by kernel_rfl)<|zb j4 Z Z Z Z Z Z .t1 Z<|z7<|zd (i := 15) Z (by kernel_rfl) (by kernel_rfl)<|zb j4 Z Z Z Z Z Z .head Z<|zn (zj (zm .head))<|zn (zj (zm .t1))<|z7<|zk (by kernel_rfl) ?_
      exact ⟨(i12, i13), trivial, zR2, zLe, trivial⟩
    ·refine ze (cs := [.int .i64 0, .int .i64 0]) j5 Z Z<|fun i13 => z7<|yc (i := 11) (j := 12) Z Z (by kernel_rfl) ?_ ?_
     ·refine zc (rjof_spec ov (aJ1 x) h3) Z<|z7<|zOn 12 Z<|ze (cs := [.int .i64 0, .int .i64 0]) j5 Z Z<|fun i12 => z7<|zi<|zd (i := 14) Z (by kernel_rfl) (by kernel_rfl)<|zb j4 Z Z Z Z Z Z .head Z<|z7<|zd (i := 15) Z (by kernel_rfl) (by kernel_rfl)<|zb j4 Z Z Z Z Z Z .t1 Z<|z7<|zk (by kernel_rfl) ?_
      exact ⟨(i12, i13), trivial, zR2, zLe, trivial⟩
     ·refine ze (cs := [.int .i64 0, .int .i64 0]) j5 Z Z<|fun i12 => z7<|zOn 11 Z<|zc (rjof_spec ov (aJ1 x) h3) Z<|z7<|zi<|zd (i := 14) Z (by kernel_rfl) (by kernel_rfl)<|zb j4 Z Z Z Z Z Z .head Z<|z7<|zd (i := 15) Z (by kernel_rfl) (by kernel_rfl)<|zb j4 Z Z Z Z Z Z .t1 Z<|z7<|zk (by kernel_rfl) ?_
      exact ⟨(i12, i13), trivial, zR2, zLe, trivial⟩
   ·refine ze (cs := [.int .i64 0, .int .i64 0]) j5 Z Z<|fun i12 => z7<|yc (i := 5) (j := 13) Z Z (by kernel_rfl) ?_ ?_
    ·refine zc (rjof_spec lo (aJ1 x) h1) Z<|z7<|yc (i := 11) (j := 13) Z Z (by kernel_rfl) ?_ ?_
     ·refine zc (rjof_spec ov (aJ1 x) h3) Z<|z7<|zOn 13 Z<|ze (cs := [.int .i64 0, .int .i64 0]) j5 Z Z<|fun i13 => z7<|zi<|zd (i := 14) Z (by kernel_rfl) (by kernel_rfl)<|zb j4 Z Z Z Z Z Z .t1 Z<|z7<|zd (i := 15) Z (by kernel_rfl) (by kernel_rfl)<|zb j4 Z Z Z Z Z Z .head Z<|zn (zj (zm .head))<|zn (zj (zm .t1))<|z7<|zk (by kernel_rfl) ?_
      exact ⟨(i12, i13), trivial, zR2, zLe, trivial⟩
     ·refine ze (cs := [.int .i64 0, .int .i64 0]) j5 Z Z<|fun i13 => z7<|zOn 11 Z<|zc (rjof_spec ov (aJ1 x) h3) Z<|z7<|zi<|zd (i := 14) Z (by kernel_rfl) (by kernel_rfl)<|zb j4 Z Z Z Z Z Z .t1 Z<|z7<|zd (i := 15) Z (by kernel_rfl) (by kernel_rfl)<|zb j4 Z Z Z Z Z Z .head Z<|zn (zj (zm .head))<|zn (zj (zm .t1))<|z7<|zk (by kernel_rfl) ?_
      exact ⟨(i12, i13), trivial, zR2, zLe, trivial⟩
    ·refine ze (cs := [.int .i64 0, .int .i64 0]) j5 Z Z<|fun i13 => z7<|zOn 5 Z<|zc (rjof_spec lo (aJ1 x) h1) Z<|z7<|zOn 11 Z<|zc (rjof_spec ov (aJ1 x) h3) Z<|z7<|zi<|zd (i := 14) Z (by kernel_rfl) (by kernel_rfl)<|zb j4 Z Z Z Z Z Z .t1 Z<|z7<|zd (i := 15) Z (by kernel_rfl) (by kernel_rfl)<|zb j4 Z Z Z Z Z Z .head Z<|zn (zj (zm .head))<|zn (zj (zm .t1))<|z7<|zk (by kernel_rfl) ?_
     exact ⟨(i12, i13), trivial, zR2, zLe, trivial⟩
   ·refine ze (cs := [.int .i64 0, .int .i64 0]) j5 Z Z<|fun i13 => z7<|yc (i := 5) (j := 12) Z Z (by kernel_rfl) ?_ ?_
    ·refine zc (rjof_spec lo (aJ1 x) h1) Z<|z7<|yc (i := 11) (j := 12) Z Z (by kernel_rfl) ?_ ?_
     ·refine zc (rjof_spec ov (aJ1 x) h3) Z<|z7<|zOn 12 Z<|ze (cs := [.int .i64 0, .int .i64 0]) j5 Z Z<|fun i12 => z7<|zi<|zd (i := 14) Z (by kernel_rfl) (by kernel_rfl)<|zb j4 Z Z Z Z Z Z .head Z<|z7<|zd (i := 15) Z (by kernel_rfl) (by kernel_rfl)<|zb j4 Z Z Z Z Z Z .t1 Z<|z7<|zk (by kernel_rfl) ?_
      exact ⟨(i12, i13), trivial, zR2, zLe, trivial⟩
     ·refine ze (cs := [.int .i64 0, .int .i64 0]) j5 Z Z<|fun i12 => z7<|zOn 11 Z<|zc (rjof_spec ov (aJ1 x) h3) Z<|z7<|zi<|zd (i := 14) Z (by kernel_rfl) (by kernel_rfl)<|zb j4 Z Z Z Z Z Z .head Z<|z7<|zd (i := 15) Z (by kernel_rfl) (by kernel_rfl)<|zb j4 Z Z Z Z Z Z .t1 Z<|z7<|zk (by kernel_rfl) ?_
      exact ⟨(i12, i13), trivial, zR2, zLe, trivial⟩
    ·refine ze (cs := [.int .i64 0, .int .i64 0]) j5 Z Z<|fun i12 => z7<|zOn 5 Z<|zc (rjof_spec lo (aJ1 x) h1) Z<|z7<|zOn 11 Z<|zc (rjof_spec ov (aJ1 x) h3) Z<|z7<|zi<|zd (i := 14) Z (by kernel_rfl) (by kernel_rfl)<|zb j4 Z Z Z Z Z Z .head Z<|z7<|zd (i := 15) Z (by kernel_rfl) (by kernel_rfl)<|zb j4 Z Z Z Z Z Z .t1 Z<|z7<|zk (by kernel_rfl) ?_
     exact ⟨(i12, i13), trivial, zR2, zLe, trivial⟩
  ·rintro ⟨i12, i13⟩ _
   refine yo (ye (t := 12) Z .head)<|yo (ye (t := 13) Z .head) ?_
   unfold leastB
   by_cases b1 : (bOf lo (aJ1 x)).1 = true
   ·refine zSr<|zVzFF wz Z je Z Z<|zVzLi jf Z<|z6 (zq Z Z)<|zVzMb Z ?_
    by_cases b2 : 0 ≤ (bOf lo (aJ1 x)).2
    ·refine za Z Z (by rw [if_pos b1]; rfl)<|zVzFF wz Z j6 Z Z<|za Z Z (by rw [if_pos b1]; rfl)<|zVzLi j8 Z<|za Z Z (by rw [if_pos b1]; rfl)<|z6 (Gv.geq Z Z)<|z6 (zPt Z (by rw [if_pos b1]; rfl) Z)<|zVzMb Z ?_
     by_cases b3 : (bOf ov (aJ1 x)).1 = true
     ·refine za Z Z (by rw [if_pos b1]; simpa using b2)<|zVzFF wz Z je Z Z<|za Z Z (by rw [if_pos b1]; simpa using b2)<|zVzLi jf Z<|za Z Z (by rw [if_pos b1]; simpa using b2)<|z6 (zq Z Z)<|z6 (zPt Z (by rw [if_pos b1]; simpa using b2) Z)<|zVzMb Z<|za Z Z (by rw [if_pos b3]; rfl)<|zVzFF wz Z j6 Z Z<|za Z Z (by rw [if_pos b3]; rfl)<|zVzLi j8 Z<|za Z Z (by rw [if_pos b3]; rfl)<|z6 (y9 Z Z)<|z6 (zPt Z (by rw [if_pos b3]; rfl) Z)<|zVzAb Z<|z7<|zf<|zh (x := .bool _) Z ?_
      exact jb (by rw [b1, b3, if_pos rfl, decide_eq_true b2]; simp; omega)
     ·refine za Z Z (by rw [if_pos b1]; simpa using b2)<|zVzFF wz Z je Z Z<|za Z Z (by rw [if_pos b1]; simpa using b2)<|zVzLi jf Z<|za Z Z (by rw [if_pos b1]; simpa using b2)<|z6 (zq Z Z)<|z6 (zPt Z (by rw [if_pos b1]; simpa using b2) Z)<|zVzMb Z<|z8 Z Z (by rw [if_neg b3]; rfl)<|z8 Z Z (by rw [if_neg b3]; rfl)<|z8 Z Z (by rw [if_neg b3]; rfl)<|z6 (zPf Z (by rw [if_neg b3]; rfl) Z)<|zVzAb Z<|z7<|zf<|zh (x := .bool _) Z ?_
      exact jb (by rw [Bool.eq_false_iff.2 b3]; simp)
    ·refine za Z Z (by rw [if_pos b1]; rfl)<|zVzFF wz Z j6 Z Z<|za Z Z (by rw [if_pos b1]; rfl)<|zVzLi j8 Z<|za Z Z (by rw [if_pos b1]; rfl)<|z6 (Gv.geq Z Z)<|z6 (zPt Z (by rw [if_pos b1]; rfl) Z)<|zVzMb Z<|z8 Z Z (by rw [if_pos b1]; simpa using b2)<|z8 Z Z (by rw [if_pos b1]; simpa using b2)<|z8 Z Z (by rw [if_pos b1]; simpa using b2)<|z6 (zPf Z (by rw [if_pos b1]; simpa using b2) Z)<|zVzMb Z<|z8 Z Z Z<|z8 Z Z Z<|z8 Z Z Z<|z6 (zPf Z Z Z)<|zVzAb Z<|z7<|zf<|zh (x := .bool _) Z ?_
     exact jb (by rw [decide_eq_false b2]; simp)
   ·refine zSr<|zVzFF wz Z je Z Z<|zVzLi jf Z<|z6 (zq Z Z)<|zVzMb Z<|z8 Z Z (by rw [if_neg b1]; rfl)<|z8 Z Z (by rw [if_neg b1]; rfl)<|z8 Z Z (by rw [if_neg b1]; rfl)<|z6 (zPf Z (by rw [if_neg b1]; rfl) Z)<|zVzMb Z<|z8 Z Z Z<|z8 Z Z Z<|z8 Z Z Z<|z6 (zPf Z Z Z)<|zVzMb Z<|z8 Z Z Z<|z8 Z Z Z<|z8 Z Z Z<|z6 (zPf Z Z Z)<|zVzAb Z<|z7<|zf<|zh (x := .bool _) Z ?_
    exact jb (by rw [Bool.eq_false_iff.2 b1]; simp)
 ·refine yf<|zSr<|z6 (zq Z Z)<|zVzAb Z<|z7<|yq Z (by simpa using e18) ?_
  by_cases e19 : x.op = 19
  ·have hj : judB x lo up ov = leastB lo (aJ0 x) 1 := by unfold judB; rw [if_neg e18, if_pos e19]
   rw [hj]
   refine zSr<|z6 (zq Z Z)<|zVzAb Z<|z7<|ya Z (by rw [e19]; rfl) ?_
   unfold leastB
   by_cases b1 : (bOf lo (aJ0 x)).1 = true
   ·refine zSr<|zVzFF wz Z je Z Z<|zVzLi jf Z<|z6 (zq Z Z)<|zVzMb Z<|za Z Z (by rw [if_pos b1]; rfl)<|zVzFF wz Z j6 Z Z<|za Z Z (by rw [if_pos b1]; rfl)<|zVzLi j8 Z<|za Z Z (by rw [if_pos b1]; rfl)<|z6 (yl Z Z)<|z6 (zPt Z (by rw [if_pos b1]; rfl) Z)<|zVzAb Z<|z7<|zf<|zh (x := .bool _) Z ?_
    exact jb (by rw [b1, if_pos rfl]; simp; omega)
   ·refine zSr<|zVzFF wz Z je Z Z<|zVzLi jf Z<|z6 (zq Z Z)<|zVzMb Z<|z8 Z Z (by rw [if_neg b1]; rfl)<|z8 Z Z (by rw [if_neg b1]; rfl)<|z8 Z Z (by rw [if_neg b1]; rfl)<|z6 (zPf Z (by rw [if_neg b1]; rfl) Z)<|zVzAb Z<|z7<|zf<|zh (x := .bool _) Z ?_
    exact jb (by rw [Bool.eq_false_iff.2 b1]; simp)
  ·refine zSr<|z6 (zq Z Z)<|zVzAb Z<|z7<|yq Z (by simpa using e19) ?_
   by_cases e20 : x.op = 20
   ·have hj : judB x lo up ov = (leastB lo (aJ0 x) 1 || mostB up (aJ0 x) (-1)) := by unfold judB; rw [if_neg e18, if_neg e19, if_pos e20]
    rw [hj]
    refine zSr<|z6 (zq Z Z)<|zVzAb Z<|z7<|ya Z (by rw [e20]; rfl) ?_
    unfold leastB mostB
    by_cases b1 : ((bOf lo (aJ0 x)).1 && decide (1 ≤ (bOf lo (aJ0 x)).2)) = true
    ·have b1' : (bOf lo (aJ0 x)).1 = true ∧ 1 ≤ (bOf lo (aJ0 x)).2 := by simpa using b1
     refine zSr<|zVzFF wz Z je Z Z<|zVzLi jf Z<|z6 (zq Z Z)<|zVzMb Z<|za Z Z (by rw [if_pos b1'.1]; rfl)<|zVzFF wz Z j6 Z Z<|za Z Z (by rw [if_pos b1'.1]; rfl)<|zVzLi j8 Z<|za Z Z (by rw [if_pos b1'.1]; rfl)<|z6 (yl Z Z)<|z6 (zPt Z (by rw [if_pos b1'.1]; rfl) Z)<|zVzMb Z<|z8 Z Z (by rw [if_pos b1'.1]; simp; omega)<|z8 Z Z (by rw [if_pos b1'.1]; simp; omega)<|z8 Z Z (by rw [if_pos b1'.1]; simp; omega)<|z8 Z Z (by rw [if_pos b1'.1]; simp; omega)<|yg Z Z<|yg Z Z<|yg Z Z<|z8 Z Z (by rw [if_pos b1'.1]; simp; omega)<|z6 (zPt Z (by rw [if_pos b1'.1]; simp; omega) Z)<|zVzAb Z<|z7<|zf<|zh (x := .bool _) Z ?_
     exact jb (by rw [b1]; rfl)
    ·by_cases b2 : (bOf lo (aJ0 x)).1 = true
     ·have b3 : ¬ 1 ≤ (bOf lo (aJ0 x)).2 := fun h => b1 (by rw [b2]; simpa using h)
      refine zSr<|zVzFF wz Z je Z Z<|zVzLi jf Z<|z6 (zq Z Z)<|zVzMb Z<|za Z Z (by rw [if_pos b2]; rfl)<|zVzFF wz Z j6 Z Z<|za Z Z (by rw [if_pos b2]; rfl)<|zVzLi j8 Z<|za Z Z (by rw [if_pos b2]; rfl)<|z6 (yl Z Z)<|z6 (zPt Z (by rw [if_pos b2]; rfl) Z)<|zVzMb Z ?_
      by_cases b4 : (bOf up (aJ0 x)).1 = true
      ·refine za Z Z (by rw [if_pos b2]; simp; omega)<|zVzFF wz Z je Z Z<|za Z Z (by rw [if_pos b2]; simp; omega)<|zVzLi jf Z<|za Z Z (by rw [if_pos b2]; simp; omega)<|z6 (zq Z Z)<|za Z Z (by rw [if_pos b2]; simp; omega)<|zVzMb Z<|za Z Z (by rw [if_pos b4]; rfl)<|zVzFF wz Z j6 Z Z<|za Z Z (by rw [if_pos b4]; rfl)<|zVzLi j8 Z<|za Z Z (by rw [if_pos b4]; rfl)<|z6 (y9 Z Z)<|za Z Z (by rw [if_pos b2]; simp; omega)<|z6 (zPt Z (by rw [if_pos b4]; rfl) Z)<|z6 (zPf Z (by rw [if_pos b2]; simp; omega) Z)<|zVzAb Z<|z7<|zf<|zh (x := .bool _) Z ?_
       exact jb (by rw [b4, if_pos rfl, Bool.eq_false_iff.2 b1]; simp; omega)
      ·refine za Z Z (by rw [if_pos b2]; simp; omega)<|zVzFF wz Z je Z Z<|za Z Z (by rw [if_pos b2]; simp; omega)<|zVzLi jf Z<|za Z Z (by rw [if_pos b2]; simp; omega)<|z6 (zq Z Z)<|za Z Z (by rw [if_pos b2]; simp; omega)<|zVzMb Z<|z8 Z Z (by rw [if_neg b4]; rfl)<|z8 Z Z (by rw [if_neg b4]; rfl)<|z8 Z Z (by rw [if_neg b4]; rfl)<|za Z Z (by rw [if_pos b2]; simp; omega)<|z6 (zPf Z (by rw [if_neg b4]; rfl) Z)<|z6 (zPf Z (by rw [if_pos b2]; simp; omega) Z)<|zVzAb Z<|z7<|zf<|zh (x := .bool _) Z ?_
       exact jb (by rw [Bool.eq_false_iff.2 b4, Bool.eq_false_iff.2 b1]; simp)
     ·refine zSr<|zVzFF wz Z je Z Z<|zVzLi jf Z<|z6 (zq Z Z)<|zVzMb Z<|z8 Z Z (by rw [if_neg b2]; rfl)<|z8 Z Z (by rw [if_neg b2]; rfl)<|z8 Z Z (by rw [if_neg b2]; rfl)<|z6 (zPf Z (by rw [if_neg b2]; rfl) Z)<|zVzMb Z ?_
      by_cases b4 : (bOf up (aJ0 x)).1 = true
      ·refine za Z Z Z<|zVzFF wz Z je Z Z<|za Z Z Z<|zVzLi jf Z<|za Z Z Z<|z6 (zq Z Z)<|za Z Z Z<|zVzMb Z<|za Z Z (by rw [if_pos b4]; rfl)<|zVzFF wz Z j6 Z Z<|za Z Z (by rw [if_pos b4]; rfl)<|zVzLi j8 Z<|za Z Z (by rw [if_pos b4]; rfl)<|z6 (y9 Z Z)<|za Z Z Z<|z6 (zPt Z (by rw [if_pos b4]; rfl) Z)<|z6 (zPf Z Z Z)<|zVzAb Z<|z7<|zf<|zh (x := .bool _) Z ?_
       exact jb (by rw [b4, if_pos rfl, Bool.eq_false_iff.2 b1]; simp; omega)
      ·refine za Z Z Z<|zVzFF wz Z je Z Z<|za Z Z Z<|zVzLi jf Z<|za Z Z Z<|z6 (zq Z Z)<|za Z Z Z<|zVzMb Z<|z8 Z Z (by rw [if_neg b4]; rfl)<|z8 Z Z (by rw [if_neg b4]; rfl)<|z8 Z Z (by rw [if_neg b4]; rfl)<|za Z Z Z<|z6 (zPf Z (by rw [if_neg b4]; rfl) Z)<|z6 (zPf Z Z Z)<|zVzAb Z<|z7<|zf<|zh (x := .bool _) Z ?_
       exact jb (by rw [Bool.eq_false_iff.2 b4, Bool.eq_false_iff.2 b1]; simp)
   ·refine zSr<|z6 (zq Z Z)<|zVzAb Z<|z7<|yq Z (by simpa using e20) ?_
    by_cases e24 : x.op = 24
    ·have hj : judB x lo up ov = (leastB lo (aJ0 x) 0 && mostB up (aJ0 x) 64) := by unfold judB; rw [if_neg e18, if_neg e19, if_neg e20, if_pos e24]
     rw [hj]
     refine zSr<|z6 (zq Z Z)<|zVzAb Z<|z7<|ya Z (by rw [e24]; rfl) ?_
     unfold leastB mostB
     by_cases b1 : (bOf lo (aJ0 x)).1 = true
     ·refine zSr<|zVzFF wz Z je Z Z<|zVzLi jf Z<|z6 (zq Z Z)<|zVzMb Z ?_
      by_cases b2 : 0 ≤ (bOf lo (aJ0 x)).2
      ·refine za Z Z (by rw [if_pos b1]; rfl)<|zVzFF wz Z j6 Z Z<|za Z Z (by rw [if_pos b1]; rfl)<|zVzLi j8 Z<|za Z Z (by rw [if_pos b1]; rfl)<|z6 (Gv.geq Z Z)<|z6 (zPt Z (by rw [if_pos b1]; rfl) Z)<|zVzMb Z ?_
       by_cases b4 : (bOf up (aJ0 x)).1 = true
       ·refine za Z Z (by rw [if_pos b1]; simpa using b2)<|zVzFF wz Z je Z Z<|za Z Z (by rw [if_pos b1]; simpa using b2)<|zVzLi jf Z<|za Z Z (by rw [if_pos b1]; simpa using b2)<|z6 (zq Z Z)<|z6 (zPt Z (by rw [if_pos b1]; simpa using b2) Z)<|zVzMb Z<|za Z Z (by rw [if_pos b4]; rfl)<|zVzFF wz Z j6 Z Z<|za Z Z (by rw [if_pos b4]; rfl)<|zVzLi j8 Z<|za Z Z (by rw [if_pos b4]; rfl)<|z6 (Gv.leq Z Z)<|z6 (zPt Z (by rw [if_pos b4]; rfl) Z)<|zVzAb Z<|z7<|zf<|zh (x := .bool _) Z ?_
        exact jb (by rw [b4, b1, if_pos rfl, decide_eq_true b2]; simp)
       ·refine za Z Z (by rw [if_pos b1]; simpa using b2)<|zVzFF wz Z je Z Z<|za Z Z (by rw [if_pos b1]; simpa using b2)<|zVzLi jf Z<|za Z Z (by rw [if_pos b1]; simpa using b2)<|z6 (zq Z Z)<|z6 (zPt Z (by rw [if_pos b1]; simpa using b2) Z)<|zVzMb Z<|z8 Z Z (by rw [if_neg b4]; rfl)<|z8 Z Z (by rw [if_neg b4]; rfl)<|z8 Z Z (by rw [if_neg b4]; rfl)<|z6 (zPf Z (by rw [if_neg b4]; rfl) Z)<|zVzAb Z<|z7<|zf<|zh (x := .bool _) Z ?_
        exact jb (by rw [Bool.eq_false_iff.2 b4]; simp)
      ·refine za Z Z (by rw [if_pos b1]; rfl)<|zVzFF wz Z j6 Z Z<|za Z Z (by rw [if_pos b1]; rfl)<|zVzLi j8 Z<|za Z Z (by rw [if_pos b1]; rfl)<|z6 (Gv.geq Z Z)<|z6 (zPt Z (by rw [if_pos b1]; rfl) Z)<|zVzMb Z<|z8 Z Z (by rw [if_pos b1]; simpa using b2)<|z8 Z Z (by rw [if_pos b1]; simpa using b2)<|z8 Z Z (by rw [if_pos b1]; simpa using b2)<|z6 (zPf Z (by rw [if_pos b1]; simpa using b2) Z)<|zVzMb Z<|z8 Z Z Z<|z8 Z Z Z<|z8 Z Z Z<|z6 (zPf Z Z Z)<|zVzAb Z<|z7<|zf<|zh (x := .bool _) Z ?_
       exact jb (by rw [decide_eq_false b2]; simp)
     ·refine zSr<|zVzFF wz Z je Z Z<|zVzLi jf Z<|z6 (zq Z Z)<|zVzMb Z<|z8 Z Z (by rw [if_neg b1]; rfl)<|z8 Z Z (by rw [if_neg b1]; rfl)<|z8 Z Z (by rw [if_neg b1]; rfl)<|z6 (zPf Z (by rw [if_neg b1]; rfl) Z)<|zVzMb Z<|z8 Z Z Z<|z8 Z Z Z<|z8 Z Z Z<|z6 (zPf Z Z Z)<|zVzMb Z<|z8 Z Z Z<|z8 Z Z Z<|z8 Z Z Z<|z6 (zPf Z Z Z)<|zVzAb Z<|z7<|zf<|zh (x := .bool _) Z ?_
      exact jb (by rw [Bool.eq_false_iff.2 b1]; simp)
    ·have hj : judB x lo up ov = ((((bOf lo (aJ0 x)).1 && (bOf up (aJ0 x)).1) && ((bOf lo (aJ1 x)).1 && (bOf up (aJ1 x)).1)) && fitJ x lo up) := by unfold judB; rw [if_neg e18, if_neg e19, if_neg e20, if_neg e24]
     have l2 := l1 (.inr (by omega))
     obtain ⟨k, hk⟩ : ∃ k : Nat, x.op - 21 = (k : Int) := ⟨(x.op - 21).toNat, by omega⟩
     have hk2 : k ≤ 2 := by omega
     have hkt : (x.op - 21).toNat = k := by omega
     have hfit := rFitsJ (E := E) (x.op - 21) hk2 hk (a := (nM (bOf lo (aJ0 x)), nM (bOf up (aJ0 x)))) (b := (nM (bOf lo (aJ1 x)), nM (bOf up (aJ1 x)))) ⟨nM_64 k1 _, nM_64 k2 _⟩ ⟨nM_64 k1 _, nM_64 k2 _⟩
     rw [hj]
     refine zSr<|z6 (zq Z Z)<|zVzAb Z<|z7<|yq Z (by simpa using e24)<|zz<|zg<|AWP.cutS (γ := Nat × Nat) [4, 10, 11] (fun g => [(14, .po g.1 0), (15, .po g.2 0)]) (fun g => [(g.1, .cells 106 (encMk (bOf lo (aJ1 x)))), (g.2, .cells 106 (encMk (bOf up (aJ1 x))))]) (fun g => True) ?_ (fun _ _ h => h) ?_
     ·refine zy (fun j => Nat.beq j 14 || Nat.beq j 15) (by kernel_rfl) Z (yd (.rest _))<|zTk 0 Z (zMf Z)<|zTk 1 Z (zFF j7 Z jn Z Z)<|zTk 2 Z (zLf js Z)<|zTk 3 Z (zIM 1 jg je Z Z Z (arJ1 l2))<|zTk 4 Z (zLi jf Z)<|zt (i := 6) Z (by kernel_rfl) (by kernel_rfl) (by kernel_rfl) (by kernel_rfl) (zMf Z)<|zt (i := 7) Z (by kernel_rfl) (by kernel_rfl) (by kernel_rfl) (by kernel_rfl) (zFF j7 Z jn Z Z)<|zt (i := 8) Z (by kernel_rfl) (by kernel_rfl) (by kernel_rfl) (by kernel_rfl) (zLf js Z)<|zt (i := 9) Z (by kernel_rfl) (by kernel_rfl) (by kernel_rfl) (by kernel_rfl) (zIM 1 jg je Z Z Z (arJ1 l2))<|zt (i := 10) Z (by kernel_rfl) (by kernel_rfl) (by kernel_rfl) (by kernel_rfl) (zLi jf Z)<|AAny.three (i := 5) (j := 12) (m := 13) Z Z Z (by kernel_rfl) ?_ ?_ ?_
      ·refine zc (rjof_spec lo (aJ1 x) h1) Z<|z7<|AAny.three (i := 11) (j := 12) (m := 13) Z Z Z (by kernel_rfl) ?_ ?_ ?_
       ·refine zc (rjof_spec up (aJ1 x) h2) Z<|z7<|yc (i := 12) (j := 13) Z Z (by kernel_rfl) ?_ ?_
        ·refine ze (cs := [.int .i64 0, .int .i64 0]) j5 Z Z<|fun i14 => z7<|zOn 13 Z<|ze (cs := [.int .i64 0, .int .i64 0]) j5 Z Z<|fun i15 => z7<|zi<|zd (i := 14) Z (by kernel_rfl) (by kernel_rfl)<|zb j4 Z Z Z Z Z Z .t1 Z<|z7<|zd (i := 15) Z (by kernel_rfl) (by kernel_rfl)<|zb j4 Z Z Z Z Z Z .head Z<|zn (zj (zm .head))<|zn (zj (zm .t1))<|z7<|zk (by kernel_rfl) ?_
         exact ⟨(i14, i15), (by repeat (first | with_reducible exact zr _ _ | refine zw rfl ?_ | exact zR3)), zR2, zLe, trivial⟩
        ·refine ze (cs := [.int .i64 0, .int .i64 0]) j5 Z Z<|fun i15 => z7<|zOn 12 Z<|ze (cs := [.int .i64 0, .int .i64 0]) j5 Z Z<|fun i14 => z7<|zi<|zd (i := 14) Z (by kernel_rfl) (by kernel_rfl)<|zb j4 Z Z Z Z Z Z .head Z<|z7<|zd (i := 15) Z (by kernel_rfl) (by kernel_rfl)<|zb j4 Z Z Z Z Z Z .t1 Z<|z7<|zk (by kernel_rfl) ?_
         exact ⟨(i14, i15), (by repeat (first | with_reducible exact zr _ _ | refine zw rfl ?_ | exact zR3)), zR2, zLe, trivial⟩
       ·refine ze (cs := [.int .i64 0, .int .i64 0]) j5 Z Z<|fun i14 => z7<|yc (i := 11) (j := 13) Z Z (by kernel_rfl) ?_ ?_
        ·refine zc (rjof_spec up (aJ1 x) h2) Z<|z7<|zOn 13 Z<|ze (cs := [.int .i64 0, .int .i64 0]) j5 Z Z<|fun i15 => z7<|zi<|zd (i := 14) Z (by kernel_rfl) (by kernel_rfl)<|zb j4 Z Z Z Z Z Z .t1 Z<|z7<|zd (i := 15) Z (by kernel_rfl) (by kernel_rfl)<|zb j4 Z Z Z Z Z Z .head Z<|zn (zj (zm .head))<|zn (zj (zm .t1))<|z7<|zk (by kernel_rfl) ?_
         exact ⟨(i14, i15), (by repeat (first | with_reducible exact zr _ _ | refine zw rfl ?_ | exact zR3)), zR2, zLe, trivial⟩
        ·refine ze (cs := [.int .i64 0, .int .i64 0]) j5 Z Z<|fun i15 => z7<|zOn 11 Z<|zc (rjof_spec up (aJ1 x) h2) Z<|z7<|zi<|zd (i := 14) Z (by kernel_rfl) (by kernel_rfl)<|zb j4 Z Z Z Z Z Z .t1 Z<|z7<|zd (i := 15) Z (by kernel_rfl) (by kernel_rfl)<|zb j4 Z Z Z Z Z Z .head Z<|zn (zj (zm .head))<|zn (zj (zm .t1))<|z7<|zk (by kernel_rfl) ?_
         exact ⟨(i14, i15), (by repeat (first | with_reducible exact zr _ _ | refine zw rfl ?_ | exact zR3)), zR2, zLe, trivial⟩
       ·refine ze (cs := [.int .i64 0, .int .i64 0]) j5 Z Z<|fun i15 => z7<|yc (i := 11) (j := 12) Z Z (by kernel_rfl) ?_ ?_
        ·refine zc (rjof_spec up (aJ1 x) h2) Z<|z7<|zOn 12 Z<|ze (cs := [.int .i64 0, .int .i64 0]) j5 Z Z<|fun i14 => z7<|zi<|zd (i := 14) Z (by kernel_rfl) (by kernel_rfl)<|zb j4 Z Z Z Z Z Z .head Z<|z7<|zd (i := 15) Z (by kernel_rfl) (by kernel_rfl)<|zb j4 Z Z Z Z Z Z .t1 Z<|z7<|zk (by kernel_rfl) ?_
         exact ⟨(i14, i15), (by repeat (first | with_reducible exact zr _ _ | refine zw rfl ?_ | exact zR3)), zR2, zLe, trivial⟩
        ·refine ze (cs := [.int .i64 0, .int .i64 0]) j5 Z Z<|fun i14 => z7<|zOn 11 Z<|zc (rjof_spec up (aJ1 x) h2) Z<|z7<|zi<|zd (i := 14) Z (by kernel_rfl) (by kernel_rfl)<|zb j4 Z Z Z Z Z Z .head Z<|z7<|zd (i := 15) Z (by kernel_rfl) (by kernel_rfl)<|zb j4 Z Z Z Z Z Z .t1 Z<|z7<|zk (by kernel_rfl) ?_
         exact ⟨(i14, i15), (by repeat (first | with_reducible exact zr _ _ | refine zw rfl ?_ | exact zR3)), zR2, zLe, trivial⟩
      ·refine ze (cs := [.int .i64 0, .int .i64 0]) j5 Z Z<|fun i14 => z7<|yc (i := 5) (j := 13) Z Z (by kernel_rfl) ?_ ?_
       ·refine zc (rjof_spec lo (aJ1 x) h1) Z<|z7<|yc (i := 11) (j := 13) Z Z (by kernel_rfl) ?_ ?_
        ·refine zc (rjof_spec up (aJ1 x) h2) Z<|z7<|zOn 13 Z<|ze (cs := [.int .i64 0, .int .i64 0]) j5 Z Z<|fun i15 => z7<|zi<|zd (i := 14) Z (by kernel_rfl) (by kernel_rfl)<|zb j4 Z Z Z Z Z Z .t1 Z<|z7<|zd (i := 15) Z (by kernel_rfl) (by kernel_rfl)<|zb j4 Z Z Z Z Z Z .head Z<|zn (zj (zm .head))<|zn (zj (zm .t1))<|z7<|zk (by kernel_rfl) ?_
         exact ⟨(i14, i15), (by repeat (first | with_reducible exact zr _ _ | refine zw rfl ?_ | exact zR3)), zR2, zLe, trivial⟩
        ·refine ze (cs := [.int .i64 0, .int .i64 0]) j5 Z Z<|fun i15 => z7<|zOn 11 Z<|zc (rjof_spec up (aJ1 x) h2) Z<|z7<|zi<|zd (i := 14) Z (by kernel_rfl) (by kernel_rfl)<|zb j4 Z Z Z Z Z Z .t1 Z<|z7<|zd (i := 15) Z (by kernel_rfl) (by kernel_rfl)<|zb j4 Z Z Z Z Z Z .head Z<|zn (zj (zm .head))<|zn (zj (zm .t1))<|z7<|zk (by kernel_rfl) ?_
         exact ⟨(i14, i15), (by repeat (first | with_reducible exact zr _ _ | refine zw rfl ?_ | exact zR3)), zR2, zLe, trivial⟩
       ·refine ze (cs := [.int .i64 0, .int .i64 0]) j5 Z Z<|fun i15 => z7<|zOn 5 Z<|zc (rjof_spec lo (aJ1 x) h1) Z<|z7<|zOn 11 Z<|zc (rjof_spec up (aJ1 x) h2) Z<|z7<|zi<|zd (i := 14) Z (by kernel_rfl) (by kernel_rfl)<|zb j4 Z Z Z Z Z Z .t1 Z<|z7<|zd (i := 15) Z (by kernel_rfl) (by kernel_rfl)<|zb j4 Z Z Z Z Z Z .head Z<|zn (zj (zm .head))<|zn (zj (zm .t1))<|z7<|zk (by kernel_rfl) ?_
        exact ⟨(i14, i15), (by repeat (first | with_reducible exact zr _ _ | refine zw rfl ?_ | exact zR3)), zR2, zLe, trivial⟩
      ·refine ze (cs := [.int .i64 0, .int .i64 0]) j5 Z Z<|fun i15 => z7<|yc (i := 5) (j := 12) Z Z (by kernel_rfl) ?_ ?_
       ·refine zc (rjof_spec lo (aJ1 x) h1) Z<|z7<|yc (i := 11) (j := 12) Z Z (by kernel_rfl) ?_ ?_
        ·refine zc (rjof_spec up (aJ1 x) h2) Z<|z7<|zOn 12 Z<|ze (cs := [.int .i64 0, .int .i64 0]) j5 Z Z<|fun i14 => z7<|zi<|zd (i := 14) Z (by kernel_rfl) (by kernel_rfl)<|zb j4 Z Z Z Z Z Z .head Z<|z7<|zd (i := 15) Z (by kernel_rfl) (by kernel_rfl)<|zb j4 Z Z Z Z Z Z .t1 Z<|z7<|zk (by kernel_rfl) ?_
         exact ⟨(i14, i15), (by repeat (first | with_reducible exact zr _ _ | refine zw rfl ?_ | exact zR3)), zR2, zLe, trivial⟩
        ·refine ze (cs := [.int .i64 0, .int .i64 0]) j5 Z Z<|fun i14 => z7<|zOn 11 Z<|zc (rjof_spec up (aJ1 x) h2) Z<|z7<|zi<|zd (i := 14) Z (by kernel_rfl) (by kernel_rfl)<|zb j4 Z Z Z Z Z Z .head Z<|z7<|zd (i := 15) Z (by kernel_rfl) (by kernel_rfl)<|zb j4 Z Z Z Z Z Z .t1 Z<|z7<|zk (by kernel_rfl) ?_
         exact ⟨(i14, i15), (by repeat (first | with_reducible exact zr _ _ | refine zw rfl ?_ | exact zR3)), zR2, zLe, trivial⟩
       ·refine ze (cs := [.int .i64 0, .int .i64 0]) j5 Z Z<|fun i14 => z7<|zOn 5 Z<|zc (rjof_spec lo (aJ1 x) h1) Z<|z7<|zOn 11 Z<|zc (rjof_spec up (aJ1 x) h2) Z<|z7<|zi<|zd (i := 14) Z (by kernel_rfl) (by kernel_rfl)<|zb j4 Z Z Z Z Z Z .head Z<|z7<|zd (i := 15) Z (by kernel_rfl) (by kernel_rfl)<|zb j4 Z Z Z Z Z Z .t1 Z<|z7<|zk (by kernel_rfl) ?_
        exact ⟨(i14, i15), (by repeat (first | with_reducible exact zr _ _ | refine zw rfl ?_ | exact zR3)), zR2, zLe, trivial⟩
     ·rintro ⟨i14, i15⟩ _
      refine yo (ye (t := 14) Z .head)<|yo (ye (t := 15) Z .head) ?_
      by_cases hall : (((bOf lo (aJ0 x)).1 && (bOf up (aJ0 x)).1) && ((bOf lo (aJ1 x)).1 && (bOf up (aJ1 x)).1)) = true
      ·have hb : ((bOf lo (aJ0 x)).1 = true ∧ (bOf up (aJ0 x)).1 = true) ∧ (bOf lo (aJ1 x)).1 = true ∧ (bOf up (aJ1 x)).1 = true := by simpa using hall
       have n1 : nM (bOf lo (aJ0 x)) = (bOf lo (aJ0 x)).2 := if_pos hb.1.1
       have n2 : nM (bOf up (aJ0 x)) = (bOf up (aJ0 x)).2 := if_pos hb.1.2
       have n3 : nM (bOf lo (aJ1 x)) = (bOf lo (aJ1 x)).2 := if_pos hb.2.1
       have n4 : nM (bOf up (aJ1 x)) = (bOf up (aJ1 x)).2 := if_pos hb.2.2
       have hfj : fitJ x lo up = decide ((bOf up (aJ0 x)).2 < (bOf lo (aJ0 x)).2 ∨ (bOf up (aJ1 x)).2 < (bOf lo (aJ1 x)).2 ∨ cornF k (nM (bOf lo (aJ0 x)), nM (bOf up (aJ0 x))) (nM (bOf lo (aJ1 x)), nM (bOf up (aJ1 x)))) := by unfold fitJ; rw [hkt, n1, n2, n3, n4]; rfl
       rw [hall, Bool.true_and, hfj]
       refine zg<|zSr<|zVzFF wz Z je Z Z<|zVzLi jf Z<|zVzFF wz Z je Z Z<|zVzLi jf Z<|z6 (zAd Z Z)<|zVzFF wz Z je Z Z<|zVzLi jf Z<|z6 (zAd Z Z)<|zVzFF wz Z je Z Z<|zVzLi jf Z<|z6 (zAd Z Z)<|z6 (Gv.neqI Z Z)<|z7<|yq Z (by rw [if_pos hb.1.1, if_pos hb.1.2, if_pos hb.2.1, if_pos hb.2.2]; rfl) ?_
       by_cases g1 : (bOf up (aJ0 x)).2 < (bOf lo (aJ0 x)).2
       ·refine zz<|zSr<|zVzFF wz Z j6 Z Z<|zVzLi j8 Z<|zVzFF wz Z j6 Z Z<|zVzLi j8 Z<|z6 (yl Z Z)<|zVzMb Z<|z8 Z Z (by rw [if_pos hb.1.1, if_pos hb.1.2]; simpa using g1)<|z8 Z Z (by rw [if_pos hb.1.1, if_pos hb.1.2]; simpa using g1)<|z8 Z Z (by rw [if_pos hb.1.1, if_pos hb.1.2]; simpa using g1)<|z8 Z Z (by rw [if_pos hb.1.1, if_pos hb.1.2]; simpa using g1)<|z8 Z Z (by rw [if_pos hb.1.1, if_pos hb.1.2]; simpa using g1)<|z6 (zPt Z (by rw [if_pos hb.1.1, if_pos hb.1.2]; simpa using g1) Z)<|zVzMb Z<|z8 Z Z Z<|z8 Z Z Z<|z8 Z Z Z<|z8 Z Z Z<|z8 Z Z Z<|z8 Z Z Z<|z8 Z Z Z<|z8 Z Z Z<|z8 Z Z Z<|z8 Z Z Z<|z8 Z Z Z<|z8 Z Z Z<|z8 Z Z Z<|z8 Z Z Z<|zVzPt Z Z Z<|zVzAb Z<|z7<|zf<|zh (x := .bool _) Z ?_
        exact jb (by simp [g1])
       ·refine zz<|zSr<|zVzFF wz Z j6 Z Z<|zVzLi j8 Z<|zVzFF wz Z j6 Z Z<|zVzLi j8 Z<|z6 (yl Z Z)<|zVzMb Z ?_
        by_cases g2 : (bOf up (aJ1 x)).2 < (bOf lo (aJ1 x)).2
        ·refine za Z Z (by rw [if_pos hb.1.1, if_pos hb.1.2]; simpa using g1)<|zVzFF wz Z j6 Z Z<|za Z Z (by rw [if_pos hb.1.1, if_pos hb.1.2]; simpa using g1)<|zVzLi j8 Z<|za Z Z (by rw [if_pos hb.1.1, if_pos hb.1.2]; simpa using g1)<|zVzFF wz Z j6 Z Z<|za Z Z (by rw [if_pos hb.1.1, if_pos hb.1.2]; simpa using g1)<|zVzLi j8 Z<|za Z Z (by rw [if_pos hb.1.1, if_pos hb.1.2]; simpa using g1)<|z6 (yl Z Z)<|z6 (zPf Z (by rw [if_pos hb.1.1, if_pos hb.1.2]; simpa using g1) Z)<|zVzMb Z<|z8 Z Z (by rw [if_pos hb.2.1, if_pos hb.2.2]; simpa using g2)<|z8 Z Z (by rw [if_pos hb.2.1, if_pos hb.2.2]; simpa using g2)<|z8 Z Z (by rw [if_pos hb.2.1, if_pos hb.2.2]; simpa using g2)<|z8 Z Z (by rw [if_pos hb.2.1, if_pos hb.2.2]; simpa using g2)<|z8 Z Z (by rw [if_pos hb.2.1, if_pos hb.2.2]; simpa using g2)<|z8 Z Z (by rw [if_pos hb.2.1, if_pos hb.2.2]; simpa using g2)<|z8 Z Z (by rw [if_pos hb.2.1, if_pos hb.2.2]; simpa using g2)<|z8 Z Z (by rw [if_pos hb.2.1, if_pos hb.2.2]; simpa using g2)<|z8 Z Z (by rw [if_pos hb.2.1, if_pos hb.2.2]; simpa using g2)<|z8 Z Z (by rw [if_pos hb.2.1, if_pos hb.2.2]; simpa using g2)<|z8 Z Z (by rw [if_pos hb.2.1, if_pos hb.2.2]; simpa using g2)<|z8 Z Z (by rw [if_pos hb.2.1, if_pos hb.2.2]; simpa using g2)<|z8 Z Z (by rw [if_pos hb.2.1, if_pos hb.2.2]; simpa using g2)<|z8 Z Z (by rw [if_pos hb.2.1, if_pos hb.2.2]; simpa using g2)<|z6 (zPt Z (by rw [if_pos hb.2.1, if_pos hb.2.2]; simpa using g2) Z)<|zVzAb Z<|z7<|zf<|zh (x := .bool _) Z ?_
         exact jb (by simp [g2])
        ·refine za Z Z (by rw [if_pos hb.1.1, if_pos hb.1.2]; simpa using g1)<|zVzFF wz Z j6 Z Z<|za Z Z (by rw [if_pos hb.1.1, if_pos hb.1.2]; simpa using g1)<|zVzLi j8 Z<|za Z Z (by rw [if_pos hb.1.1, if_pos hb.1.2]; simpa using g1)<|zVzFF wz Z j6 Z Z<|za Z Z (by rw [if_pos hb.1.1, if_pos hb.1.2]; simpa using g1)<|zVzLi j8 Z<|za Z Z (by rw [if_pos hb.1.1, if_pos hb.1.2]; simpa using g1)<|z6 (yl Z Z)<|z6 (zPf Z (by rw [if_pos hb.1.1, if_pos hb.1.2]; simpa using g1) Z)<|zVzMb Z<|za Z Z (by rw [if_pos hb.2.1, if_pos hb.2.2]; simpa using g2)<|zVzFF j7 Z ju Z Z<|za Z Z (by rw [if_pos hb.2.1, if_pos hb.2.2]; simpa using g2)<|zVzLi isAgg22 Z<|za Z Z (by rw [if_pos hb.2.1, if_pos hb.2.2]; simpa using g2)<|z6 (Gv.sub Z Z (by unfold I64; omega))<|za Z Z (by rw [if_pos hb.2.1, if_pos hb.2.2]; simpa using g2)<|zVzFF wz Z j6 Z Z<|za Z Z (by rw [if_pos hb.2.1, if_pos hb.2.2]; simpa using g2)<|zVzLi j8 Z<|za Z Z (by rw [if_pos hb.2.1, if_pos hb.2.2]; simpa using g2)<|zVzFF wz Z j6 Z Z<|za Z Z (by rw [if_pos hb.2.1, if_pos hb.2.2]; simpa using g2)<|zVzLi j8 Z<|za Z Z (by rw [if_pos hb.2.1, if_pos hb.2.2]; simpa using g2)<|z6 (zo (cps := [(0, [_]), (1, [_])]) (rs := [_, _]) pl109 Z Z Z)<|za Z Z (by rw [if_pos hb.2.1, if_pos hb.2.2]; simpa using g2)<|zVzFF wz Z j6 Z Z<|za Z Z (by rw [if_pos hb.2.1, if_pos hb.2.2]; simpa using g2)<|zVzLi j8 Z<|za Z Z (by rw [if_pos hb.2.1, if_pos hb.2.2]; simpa using g2)<|zVzFF wz Z j6 Z Z<|za Z Z (by rw [if_pos hb.2.1, if_pos hb.2.2]; simpa using g2)<|zVzLi j8 Z<|za Z Z (by rw [if_pos hb.2.1, if_pos hb.2.2]; simpa using g2)<|z6 (zo (cps := [(0, [_]), (1, [_])]) (rs := [_, _]) pl109 Z Z Z)<|za Z Z (by rw [if_pos hb.2.1, if_pos hb.2.2]; simpa using g2)<|zc (hfit) Z<|z6 (zPf Z (by rw [if_pos hb.2.1, if_pos hb.2.2]; simpa using g2) Z) ?_
         refine zVzAb Z<|z7<|zf<|zh (x := .bool _) Z ?_
         exact jb (by simp [g1, g2])
      ·have hz : ((if (bOf lo (aJ0 x)).1 = true then (1 : Int) else 2) + (if (bOf up (aJ0 x)).1 = true then 1 else 2) + (if (bOf lo (aJ1 x)).1 = true then 1 else 2) + (if (bOf up (aJ1 x)).1 = true then 1 else 2)) ≠ 4 := fun h => hall (by
        cases c1 : (bOf lo (aJ0 x)).1 <;> cases c2 : (bOf up (aJ0 x)).1 <;> cases c3 : (bOf lo (aJ1 x)).1 <;> cases c4 : (bOf up (aJ1 x)).1 <;> simp [c1, c2, c3, c4] at h ⊢)
       refine zg<|zSr<|zVzFF wz Z je Z Z<|zVzLi jf Z<|zVzFF wz Z je Z Z<|zVzLi jf Z<|z6 (zAd Z Z)<|zVzFF wz Z je Z Z<|zVzLi jf Z<|z6 (zAd Z Z)<|zVzFF wz Z je Z Z<|zVzLi jf Z<|z6 (zAd Z Z)<|z6 (Gv.neqI Z Z)<|z7<|ya Z (by simpa using hz)<|zSr<|zVzAb Z<|z7<|zf<|zh (x := .bool _) Z ?_
       rw [Bool.eq_false_iff.2 hall]; rfl
set_option maxHeartbeats 4000000 in
theorem abcdJudges_law (x : PInst) (lo up ov : List Bnd) (hlv : AFun prog E 8 [] (.bool true)) (hx : x.args.length ≤ 9223372036854775807) (h1 : lo.length ≤ 9223372036854775807) (h2 : up.length ≤ 9223372036854775807) (h3 : ov.length ≤ 9223372036854775807) (k1 : ok64B lo) (k2 : ok64B up) : AFun prog E 3 [.agg (encInst x), .fro 2 (lo.map encBd), .fro 2 (up.map encBd), .fro 2 (ov.map encBd)] (.bool true) := by
 refine zp func3 Z (by decide) Z<|zSr<|yi (cs := _) Z Z Z<|zVzAb Z<|z7<|zg<|zSr<|zc (hlv) Z<|z6 (ym Z)<|zVzMb Z ?_
 by_cases m0 : 10 < x.args.length
 ·refine za Z Z Z<|zVzFF j7 Z jn Z Z<|za Z Z Z<|z6 (zLf js Z)<|za Z Z Z<|z6 (Gv.lenM jg Z)<|za Z Z Z<|z6 (yl Z Z)<|z6 (zPf Z Z Z)<|zVzMb Z<|z8 Z Z (by simp; omega)<|z8 Z Z (by simp; omega)<|z8 Z Z (by simp; omega)<|z6 (zPt Z (by simp; omega) Z)<|zVzMb Z<|z8 Z Z Z<|z8 Z Z Z<|z8 Z Z Z<|zVzPt Z Z Z<|zVzMb Z<|z8 Z Z Z<|z8 Z Z Z<|z8 Z Z Z<|zVzPt Z Z Z<|z7<|ya Z Z<|zSr<|zc (hlv) Z<|zVzAb Z<|z7<|zf<|zh (x := .bool _) Z ?_
  rfl
 ·refine za Z Z Z<|zVzFF j7 Z jn Z Z<|za Z Z Z<|z6 (zLf js Z)<|za Z Z Z<|z6 (Gv.lenM jg Z)<|za Z Z Z<|z6 (yl Z Z)<|z6 (zPf Z Z Z)<|zVzMb Z ?_
  by_cases m1 : 60 < lo.length
  ·refine za Z Z (by simp; omega)<|z6 (zMf Z)<|za Z Z (by simp; omega)<|z6 (Gv.lenM ji Z)<|za Z Z (by simp; omega)<|z6 (yl Z Z)<|z6 (zPf Z (by simp; omega) Z)<|zVzMb Z<|z8 Z Z (by simp; omega)<|z8 Z Z (by simp; omega)<|z8 Z Z (by simp; omega)<|z6 (zPt Z (by simp; omega) Z)<|zVzMb Z<|z8 Z Z Z<|z8 Z Z Z<|z8 Z Z Z<|zVzPt Z Z Z<|z7<|ya Z Z<|zSr<|zc (hlv) Z<|zVzAb Z<|z7<|zf<|zh (x := .bool _) Z ?_
   rfl
  ·refine za Z Z (by simp; omega)<|z6 (zMf Z)<|za Z Z (by simp; omega)<|z6 (Gv.lenM ji Z)<|za Z Z (by simp; omega)<|z6 (yl Z Z)<|z6 (zPf Z (by simp; omega) Z)<|zVzMb Z ?_
   by_cases m2 : 60 < up.length
   ·refine za Z Z (by simp; omega)<|z6 (zMf Z)<|za Z Z (by simp; omega)<|z6 (Gv.lenM ji Z)<|za Z Z (by simp; omega)<|z6 (yl Z Z)<|z6 (zPf Z (by simp; omega) Z)<|zVzMb Z<|z8 Z Z (by simp; omega)<|z8 Z Z (by simp; omega)<|z8 Z Z (by simp; omega)<|z6 (zPt Z (by simp; omega) Z)<|z7<|ya Z Z<|zSr<|zc (hlv) Z<|zVzAb Z<|z7<|zf<|zh (x := .bool _) Z ?_
    rfl
   ·refine za Z Z (by simp; omega)<|z6 (zMf Z)<|za Z Z (by simp; omega)<|z6 (Gv.lenM ji Z)<|za Z Z (by simp; omega)<|z6 (yl Z Z)<|z6 (zPf Z (by simp; omega) Z)<|zVzMb Z<|za Z Z (by simp; omega)<|z6 (zMf Z)<|za Z Z (by simp; omega)<|z6 (Gv.lenM ji Z)<|za Z Z (by simp; omega)<|z6 (yl Z Z)<|z6 (zPf Z (by simp; omega) Z)<|z7<|AWP.cond Z (fun m3=>?_) (fun m3=>?_)
    ·refine zSr<|zc (hlv) Z<|zVzAb Z<|z7<|zf<|zh (x := .bool _) Z ?_
     rfl
    ·have m3 : ¬ 60 < ov.length := by simp at m3; omega
     refine zz<|zSr<|z6 (zx isAgg25 sizeOf25 Z Z)<|z6 (zMf Z)<|z6 (zMf Z)<|z6 (zMf Z)<|zc (judge_spec x lo up ov hx h1 h2 h3 k1 k2) Z<|zVzAb Z<|z7 ?_
     by_cases cc : 18 ≤ x.op ∧ x.op ≤ 24
     ·have hrow : kindT[x.op.toNat]? = some (kRow x.op) := by
       unfold kRow
       rw [if_pos (by omega), yr (show x.op.toNat < kindT.length from by have : kindT.length = 27 := rfl; omega)]; rfl
      have htl : (takesL x.op).length = (kRow x.op).2.1.size := by unfold takesL; rw [List.length_map]; exact Array.length_toList
      refine zg<|zg<|zy (fun j => false) (by kernel_rfl) Z (yd (.rest _))<|zTk 0 Z (zFF j7 Z ju Z Z)<|zTk 1 Z (zLi isAgg22 Z)<|zOn 2 Z<|zc (chkNumJ_spec x.op) Z<|z7<|zTk 3 Z (zq Z Z)<|zTk 4 Z (zMb Z)<|zTt 5 Z Z Z (by rw [if_pos cc]; simp; omega) (zFF j7 Z jn Z Z)<|zTt 6 Z Z Z (by rw [if_pos cc]; simp; omega) (zLf js Z)<|zTt 7 Z Z Z (by rw [if_pos cc]; simp; omega) (Gv.lenM jg Z)<|zTt 9 Z Z Z (by rw [if_pos cc]; simp; omega) (zFF j7 Z ju Z Z)<|zTt 10 Z Z Z (by rw [if_pos cc]; simp; omega) (zLi isAgg22 Z)<|zOn 8 Z<|za Z Z (by rw [if_pos cc]; simp; omega)<|zc (rows_spec) Z<|z7<|zTt 11 Z Z Z (by rw [if_pos cc]; simp; omega) (zIM x.op.toNat underlying32 sizeOf31 Z Z (by omega) hrow) ?_
      refine zTt 12 Z Z Z (by rw [if_pos cc]; simp; omega) (zFF underlying31 Z sizeOf9 Z Z)<|zTt 13 Z Z Z (by rw [if_pos cc]; simp; omega) (Gv.load1F (c := .str _) isAgg9 Z)<|zTt 14 Z Z Z (by rw [if_pos cc]; simp; omega) (Gv.lenT underlying9 Z)<|zTt 15 Z Z Z (by rw [if_pos cc]; simp; omega) (Gv.neqI Z Z)<|zTk 16 Z (zPf Z (by rw [if_pos cc]; simp; omega) Z)<|zDn<|AWP.cond Z (fun m4=>?_) (fun m4=>?_)
      ·have m4 : ¬ x.args.length = (kRow x.op).2.1.size := by simp at m4; omega
       have h9 : decide (x.args.length = (takesL x.op).length) = false := decide_eq_false (by rw [htl]; exact m4)
       have hask : askJ x = false := by unfold askJ; rw [h9, Bool.and_false]
       refine zSr<|zVzMb Z<|z6 (ym Z)<|zVzAb Z<|z7<|zf<|zh (x := .bool _) Z ?_
       exact jb (by rw [hask]; rfl)
      ·have m4 : x.args.length = (kRow x.op).2.1.size := by simp at m4; omega
       have hask : askJ x = true := by unfold askJ; rw [decide_eq_true cc.1, decide_eq_true cc.2, decide_eq_true (by rw [htl]; exact m4)]; rfl
       rw [hask, Bool.true_and]
       refine zz<|zg<|zy (fun j => false) (by kernel_rfl) Z (yd (.rest _))<|zTk 0 Z (zMb Z)<|zTk 1 Z (zx isAgg25 sizeOf25 Z Z)<|zTk 2 Z (zMf Z)<|zTk 4 Z (zMf Z)<|zTk 6 Z (zMf Z)<|zOn 3 Z<|zc (marks_spec lo (by omega)) Z<|z7<|zOn 5 Z<|zc (marks_spec up (by omega)) Z<|z7<|zOn 7 Z<|zc (marks_spec ov (by omega)) Z<|z7<|zOn 8 Z<|zc (rjudge_spec x lo up ov hask hx h1 h2 h3 k1 k2) Z<|z7<|zTk 9 Z (Gv.eqlB jj Z Z)<|zTk 10 Z (zAb Z)<|zDn<|zf<|zh (x := .bool _) Z ?_
       exact jb (by simp)
     ·have hask : askJ x = false := by
       cases h : askJ x with
       | false => rfl
       | true => exact absurd (by unfold askJ at h; simp at h; exact h.1) cc
      refine zg<|zg<|zy (fun j => false) (by kernel_rfl) Z (yd (.rest _))<|zTk 0 Z (zFF j7 Z ju Z Z)<|zTk 1 Z (zLi isAgg22 Z)<|zOn 2 Z<|zc (chkNumJ_spec x.op) Z<|z7<|zTk 3 Z (zq Z Z)<|zTk 4 Z (zMb Z)<|zTf 5 Z Z Z (by rw [if_neg cc]; rfl)<|zTf 6 Z Z Z (by rw [if_neg cc]; rfl)<|zTf 7 Z Z Z (by rw [if_neg cc]; rfl)<|zTf 8 Z Z Z (by rw [if_neg cc]; rfl)<|zTf 9 Z Z Z (by rw [if_neg cc]; rfl)<|zTf 10 Z Z Z (by rw [if_neg cc]; rfl)<|zTf 11 Z Z Z (by rw [if_neg cc]; rfl)<|zTf 12 Z Z Z (by rw [if_neg cc]; rfl)<|zTf 13 Z Z Z (by rw [if_neg cc]; rfl)<|zTf 14 Z Z Z (by rw [if_neg cc]; rfl)<|zTf 15 Z Z Z (by rw [if_neg cc]; rfl)<|zTk 16 Z (zPt Z (by rw [if_neg cc]; rfl) Z)<|zDn<|ya Z Z<|zSr<|zVzMb Z<|z6 (ym Z)<|zVzAb Z<|z7<|zf<|zh (x := .bool _) Z ?_
      exact jb (by rw [hask]; rfl)
end Go.Proofs.YthlpjaleclchgaaGreatDoor
