/- An instruction of the document's machine. Of programs as they are run. -/
import Derived.Test.YtpojdepccecpgaaGreatDoorLo
set_option linter.unusedVariables false
set_option linter.unusedSimpArgs false
set_option linter.unusedSectionVars false
namespace Go.Proofs.YtpojdepccecpgaaGreatDoor
open Go.Proofs.Tryz
open Go.Proofs Go.Lib Go.Shelf Go.RowKit
theorem ps38_1 : PlacesS prog 38 47 1 1 [.raw (.slice none 0 0)] := ⟨_, Z7, Za, zeroValue47, by decide, by decide, by kernel_rfl⟩
theorem ps47_1 : PlacesS prog 47 2 1 1 [.int .i64 0] := ⟨_, jj, Z3, zeroValue2, by decide, by decide, by kernel_rfl⟩
variable {E : World}
set_option maxRecDepth 20000
theorem inst_do {s : GS} {x : PInst} (h : ¬ (18 ≤ x.op ∧ x.op ≤ 24)) : instG s x = doG s x := by unfold instG; rw [if_neg h]
theorem gb_get {l : List Bool} {v : Int} (h1 : v < l.length) (_ : 0 ≤ v) : l[v.toNat]? = some (gb l v) := by
 unfold gb; rw [qm (by omega)]; rfl
theorem set_id {α : Type} : ∀ {l : List α} {j : Nat} {a : α}, l[j]? = some a → l.set j a = l
 | [], _, _, h => by simp at h
 | _ :: _, 0, _, h => by simp at h; subst h; rfl
 | _ :: l, j + 1, a, h => by rw [List.set_cons_succ, set_id (l := l) (by simpa using h)]
theorem owns_set : ∀ {ids : List Nat} {rs : List (List Int)} {j : Nat} {r r' : List Int}, rs[j]? = some r → r'.length = r.length → ownsA ids (rs.set j r') = ownsA ids rs
 | [], _, _, _, _, _, _ => rfl
 | _ :: _, [], _, _, _, h, _ => by simp at h
 | i :: ids, r0 :: rs, 0, r, r', h, hl => by
  simp at h
  subst h
  show AV.own i r'.length :: _ = AV.own i r0.length :: _
  rw [hl]
 | i :: ids, r0 :: rs, j + 1, r, r', h, hl => by
  show AV.own i r0.length :: ownsA ids (rs.set j r') = AV.own i r0.length :: ownsA ids rs
  rw [owns_set (by simpa using h) hl]
theorem owns_push {ids : List Nat} {rs : List (List Int)} (i : Nat) (r : List Int) (h : ids.length = rs.length) : ownsA ids rs ++ [AV.own i r.length] = ownsA (ids ++ [i]) (rs ++ [r]) := by
 unfold ownsA; rw [List.zipWith_append h]; rfl
theorem bag_push {ids : List Nat} {rs : List (List Int)} (i : Nat) (r : List Int) (h : ids.length = rs.length) : (rowA i r :: bagA ids rs).Perm (bagA (ids ++ [i]) (rs ++ [r])) := by
 unfold bagA; rw [List.zipWith_append h]; exact List.perm_append_comm (l₁ := [_])
theorem wO_new (f : PFunc) (iw ja jb jc jo jt : Nat) {ids : List Nat} {s : GS} (h : ids.length = s.arrays.length) (i m : Nat) (d v : Int) (hv : v = s.arrays.length) : (iw, AObj.cells 93 (encF f ++ [.own ja f.vars.length, .own jb f.vars.length, .own jc f.vars.length, .own jo (s.arrays.length + 1), .int .i64 s.blk, .int .i64 s.pc, .int .i64 s.en, .int .i64 s.val, .int .i64 s.tr, .own jt s.trace.length, .int .i64 s.st, .int .i64 (s.ck 0), .int .i64 (s.ck 1), .int .i64 (s.ck 2), .int .i64 (s.ck 3), .int .i64 (s.ck 4), .int .i64 (s.ck 5), .int .i64 (s.ck 6), .int .i64 (s.ck 7), .bool s.ended])) :: (ja, .grow 1 2 (cI s.ints)) :: (jb, .grow 1 4 (cB s.bools)) :: (jc, .grow 1 3 (cI (s.arrs.set d.toNat v))) :: (jo, .grow 1 47 (ownsA ids s.arrays ++ [.own i m])) :: (jt, .grow 1 2 (cI s.trace)) :: [(0, bag (bagA (ids ++ [i]) (s.arrays ++ [List.replicate m 0])))] = wO f iw ja jb jc jo jt (ids ++ [i]) (stA { s with arrays := s.arrays ++ [List.replicate m 0] } d s.arrays.length) := by
 subst hv
 unfold wO wR wCe stA
 rw [← owns_push i (List.replicate m 0) h]
 simp only [qs, List.length_singleton, List.length_replicate]
theorem wO_out (f : PFunc) (iw ja jb jc jo jt : Nat) {ids : List Nat} {s : GS} (a : Int) : (iw, AObj.cells 93 (encF f ++ [.own ja f.vars.length, .own jb f.vars.length, .own jc f.vars.length, .own jo s.arrays.length, .int .i64 s.blk, .int .i64 s.pc, .int .i64 s.en, .int .i64 s.val, .int .i64 s.tr, .own jt (s.trace.length + 1), .int .i64 s.st, .int .i64 (s.ck 0), .int .i64 (s.ck 1), .int .i64 (s.ck 2), .int .i64 (s.ck 3), .int .i64 (s.ck 4), .int .i64 (s.ck 5), .int .i64 (s.ck 6), .int .i64 (s.ck 7), .bool s.ended])) :: (ja, .grow 1 2 (cI s.ints)) :: (jb, .grow 1 4 (cB s.bools)) :: (jc, .grow 1 3 (cI s.arrs)) :: (jo, .grow 1 47 (ownsA ids s.arrays)) :: (jt, .grow 1 2 (cI s.trace ++ [.int .i64 a])) :: [(0, bag (bagA ids s.arrays))] = wO f iw ja jb jc jo jt ids { s with trace := s.trace ++ [a] } := by
 unfold wO wR wCe
 rw [show cI s.trace ++ [AV.int .i64 a] = cI (s.trace ++ [a]) from cI_app s.trace [a]]
 simp only [qs, List.length_singleton]
set_option maxHeartbeats 16000000 in
theorem winst_spec (f : PFunc) (iw ja jb jc jo jt : Nat) (ids : List Nat) (s : GS) (x : PInst) (hids : ids.length = s.arrays.length) (hg : GInv f s) (hx : InstF f x) (hv : f.vars.length ≤ 1000) (hck : ∀ i, s.ck i ≤ 1000000000) : ACall prog E 74 [.po iw 0, .agg (encInst x)] (wO f iw ja jb jc jo jt ids s) (fun y O => ∃ jo' jt' ids', ids'.length = (instG s x).arrays.length ∧ y = .tup [] ∧ O = wO f iw ja jb jc jo' jt' ids' (instG s x)) := by
 have hop := hx.op
 have hl1 := hg.li
 have hl2 := hg.lb
 have hl3 := hg.la
 have hargc := hx.argc
 obtain ⟨t, ht⟩ : ∃ t, (if 18 ≤ x.op ∧ x.op ≤ 24 then x.op - 17 else 0) = t := ⟨_, rfl⟩
 have hchk := chkNum_spec (E := E) x.op hop
 rw [ht] at hchk
 refine zl func74 Z (by decide) Z<|zSr<|y8 (cs := _) Z Z Z<|z6<|zb<|zq (fun j => false) (by kernel_rfl) Z (zr (.rest _))<|zTk 1 Z (zFF jf Z Zv Z Z)<|zTk 2 Z (zLi Y4 Z)<|zOn 0 Z<|zg (rows_spec) Z<|z6<|zTk 3 Z (zIM x.op.toNat Yo Y6 Z Z (by omega) (kRow_get hop))<|zTk 4 Z (zFF Zp Z Z0 Z Z)<|zTk 5 Z (yr (c := .str _) Zc Z)<|zTk 6 Z (y4 (v := .str _) Z)<|zDn<|zb<|zSr<|zVzFF jf Z Zv Z Z<|zVzLi Y4 Z<|zg (hchk) Z<|zVzAi Z<|z6<|zSr<|zVzMi Z<|z8 (yy Z Z)<|z6<|zk Z (fun c=>?_) (fun c=>?_)
 ·have hc : 18 ≤ x.op ∧ x.op ≤ 24 := by
   refine Classical.byContradiction fun hn=>?_
   rw [if_neg hn] at ht; omega
  rw [if_pos hc] at ht
  refine zb<|yn (γ := Nat) [0, 3, 4, 5] (fun g => []) (fun g => wO f iw ja jb jc jo jt ids (bumpG s g)) (fun g => (g : Int) = t) ?_ (fun _ _ h => h) ?_
  ·have ht7 : t = 1 ∨ t = 2 ∨ t = 3 ∨ t = 4 ∨ t = 5 ∨ t = 6 ∨ t = 7 := by omega
   rcases ht7 with h7 | h7 | h7 | h7 | h7 | h7 | h7
   ·have hb := hck 1
    refine zq (fun j => Nat.beq j 12) (by kernel_rfl) Z (zr (.rest _))<|zTk 0 Z (zMp Z)<|zTk 1 Z (zMi Z)<|zTk 2 Z (zy Z)<|zTk 3 Z (zc j9 Z Z9 (by decide) Z Z)<|zTk 4 Z (zc jr Z Y2 (by decide) Z Z)<|zTk 5 Z (q9 (j := 1) Zm j5 Z Z h7 (by decide) Z)<|yk (i := 8) Z (by kernel_rfl) (by kernel_rfl) (by kernel_rfl) (by kernel_rfl) (zy Z)<|yk (i := 9) Z (by kernel_rfl) (by kernel_rfl) (by kernel_rfl) (by kernel_rfl) (zc j9 Z Z9 (by decide) Z Z)<|yk (i := 10) Z (by kernel_rfl) (by kernel_rfl) (by kernel_rfl) (by kernel_rfl) (zc jr Z Y2 (by decide) Z Z)<|zOn 6 Z<|z8 (zi (c := .int _ _) jd Z ⟨_, .head⟩ Z)<|z6<|zTk 7 Z (zAd Z Z)<|zTk 11 Z (q9 (j := 1) Zm j5 Z Z h7 (by decide) Z)<|yc<|yd (i := 12) Z (by kernel_rfl) (by kernel_rfl)<|y1 (l := [_]) (new := [_, _, _, _, _, _, _, _, _, _, _, _, _, _, _, _, _, _, _, _, _, _, _]) j5 Z Z Z Z Z Z .head Z Z<|z6<|yg (by kernel_rfl) ?_
    exact ⟨1, zR4, trivial, zLe, by rw [h7]; rfl⟩
   ·have hb := hck 2
    refine zq (fun j => Nat.beq j 12) (by kernel_rfl) Z (zr (.rest _))<|zTk 0 Z (zMp Z)<|zTk 1 Z (zMi Z)<|zTk 2 Z (zy Z)<|zTk 3 Z (zc j9 Z Z9 (by decide) Z Z)<|zTk 4 Z (zc jr Z Y2 (by decide) Z Z)<|zTk 5 Z (q9 (j := 2) Zm j5 Z Z h7 (by decide) Z)<|yk (i := 8) Z (by kernel_rfl) (by kernel_rfl) (by kernel_rfl) (by kernel_rfl) (zy Z)<|yk (i := 9) Z (by kernel_rfl) (by kernel_rfl) (by kernel_rfl) (by kernel_rfl) (zc j9 Z Z9 (by decide) Z Z)<|yk (i := 10) Z (by kernel_rfl) (by kernel_rfl) (by kernel_rfl) (by kernel_rfl) (zc jr Z Y2 (by decide) Z Z)<|zOn 6 Z<|z8 (zi (c := .int _ _) jd Z ⟨_, .head⟩ Z)<|z6<|zTk 7 Z (zAd Z Z)<|zTk 11 Z (q9 (j := 2) Zm j5 Z Z h7 (by decide) Z)<|yc<|yd (i := 12) Z (by kernel_rfl) (by kernel_rfl)<|y1 (l := [_]) (new := [_, _, _, _, _, _, _, _, _, _, _, _, _, _, _, _, _, _, _, _, _, _, _]) j5 Z Z Z Z Z Z .head Z Z<|z6<|yg (by kernel_rfl) ?_
    exact ⟨2, zR4, trivial, zLe, by rw [h7]; rfl⟩
   ·have hb := hck 3
    refine zq (fun j => Nat.beq j 12) (by kernel_rfl) Z (zr (.rest _))<|zTk 0 Z (zMp Z)<|zTk 1 Z (zMi Z)<|zTk 2 Z (zy Z)<|zTk 3 Z (zc j9 Z Z9 (by decide) Z Z)<|zTk 4 Z (zc jr Z Y2 (by decide) Z Z)<|zTk 5 Z (q9 (j := 3) Zm j5 Z Z h7 (by decide) Z)<|yk (i := 8) Z (by kernel_rfl) (by kernel_rfl) (by kernel_rfl) (by kernel_rfl) (zy Z)<|yk (i := 9) Z (by kernel_rfl) (by kernel_rfl) (by kernel_rfl) (by kernel_rfl) (zc j9 Z Z9 (by decide) Z Z)<|yk (i := 10) Z (by kernel_rfl) (by kernel_rfl) (by kernel_rfl) (by kernel_rfl) (zc jr Z Y2 (by decide) Z Z)<|zOn 6 Z<|z8 (zi (c := .int _ _) jd Z ⟨_, .head⟩ Z)<|z6<|zTk 7 Z (zAd Z Z)<|zTk 11 Z (q9 (j := 3) Zm j5 Z Z h7 (by decide) Z)<|yc<|yd (i := 12) Z (by kernel_rfl) (by kernel_rfl)<|y1 (l := [_]) (new := [_, _, _, _, _, _, _, _, _, _, _, _, _, _, _, _, _, _, _, _, _, _, _]) j5 Z Z Z Z Z Z .head Z Z<|z6<|yg (by kernel_rfl) ?_
    exact ⟨3, zR4, trivial, zLe, by rw [h7]; rfl⟩
   ·have hb := hck 4
    refine zq (fun j => Nat.beq j 12) (by kernel_rfl) Z (zr (.rest _))<|zTk 0 Z (zMp Z)<|zTk 1 Z (zMi Z)<|zTk 2 Z (zy Z)<|zTk 3 Z (zc j9 Z Z9 (by decide) Z Z)<|zTk 4 Z (zc jr Z Y2 (by decide) Z Z)<|zTk 5 Z (q9 (j := 4) Zm j5 Z Z h7 (by decide) Z)<|yk (i := 8) Z (by kernel_rfl) (by kernel_rfl) (by kernel_rfl) (by kernel_rfl) (zy Z)<|yk (i := 9) Z (by kernel_rfl) (by kernel_rfl) (by kernel_rfl) (by kernel_rfl) (zc j9 Z Z9 (by decide) Z Z)<|yk (i := 10) Z (by kernel_rfl) (by kernel_rfl) (by kernel_rfl) (by kernel_rfl) (zc jr Z Y2 (by decide) Z Z)<|zOn 6 Z<|z8 (zi (c := .int _ _) jd Z ⟨_, .head⟩ Z)<|z6<|zTk 7 Z (zAd Z Z)<|zTk 11 Z (q9 (j := 4) Zm j5 Z Z h7 (by decide) Z)<|yc<|yd (i := 12) Z (by kernel_rfl) (by kernel_rfl)<|y1 (l := [_]) (new := [_, _, _, _, _, _, _, _, _, _, _, _, _, _, _, _, _, _, _, _, _, _, _]) j5 Z Z Z Z Z Z .head Z Z<|z6<|yg (by kernel_rfl) ?_
    exact ⟨4, zR4, trivial, zLe, by rw [h7]; rfl⟩
   ·have hb := hck 5
    refine zq (fun j => Nat.beq j 12) (by kernel_rfl) Z (zr (.rest _))<|zTk 0 Z (zMp Z)<|zTk 1 Z (zMi Z)<|zTk 2 Z (zy Z)<|zTk 3 Z (zc j9 Z Z9 (by decide) Z Z)<|zTk 4 Z (zc jr Z Y2 (by decide) Z Z)<|zTk 5 Z (q9 (j := 5) Zm j5 Z Z h7 (by decide) Z)<|yk (i := 8) Z (by kernel_rfl) (by kernel_rfl) (by kernel_rfl) (by kernel_rfl) (zy Z)<|yk (i := 9) Z (by kernel_rfl) (by kernel_rfl) (by kernel_rfl) (by kernel_rfl) (zc j9 Z Z9 (by decide) Z Z)<|yk (i := 10) Z (by kernel_rfl) (by kernel_rfl) (by kernel_rfl) (by kernel_rfl) (zc jr Z Y2 (by decide) Z Z)<|zOn 6 Z<|z8 (zi (c := .int _ _) jd Z ⟨_, .head⟩ Z)<|z6<|zTk 7 Z (zAd Z Z)<|zTk 11 Z (q9 (j := 5) Zm j5 Z Z h7 (by decide) Z)<|yc<|yd (i := 12) Z (by kernel_rfl) (by kernel_rfl)<|y1 (l := [_]) (new := [_, _, _, _, _, _, _, _, _, _, _, _, _, _, _, _, _, _, _, _, _, _, _]) j5 Z Z Z Z Z Z .head Z Z<|z6<|yg (by kernel_rfl) ?_
    exact ⟨5, zR4, trivial, zLe, by rw [h7]; rfl⟩
   ·have hb := hck 6
    refine zq (fun j => Nat.beq j 12) (by kernel_rfl) Z (zr (.rest _))<|zTk 0 Z (zMp Z)<|zTk 1 Z (zMi Z)<|zTk 2 Z (zy Z)<|zTk 3 Z (zc j9 Z Z9 (by decide) Z Z)<|zTk 4 Z (zc jr Z Y2 (by decide) Z Z)<|zTk 5 Z (q9 (j := 6) Zm j5 Z Z h7 (by decide) Z)<|yk (i := 8) Z (by kernel_rfl) (by kernel_rfl) (by kernel_rfl) (by kernel_rfl) (zy Z)<|yk (i := 9) Z (by kernel_rfl) (by kernel_rfl) (by kernel_rfl) (by kernel_rfl) (zc j9 Z Z9 (by decide) Z Z)<|yk (i := 10) Z (by kernel_rfl) (by kernel_rfl) (by kernel_rfl) (by kernel_rfl) (zc jr Z Y2 (by decide) Z Z)<|zOn 6 Z<|z8 (zi (c := .int _ _) jd Z ⟨_, .head⟩ Z)<|z6<|zTk 7 Z (zAd Z Z)<|zTk 11 Z (q9 (j := 6) Zm j5 Z Z h7 (by decide) Z)<|yc<|yd (i := 12) Z (by kernel_rfl) (by kernel_rfl)<|y1 (l := [_]) (new := [_, _, _, _, _, _, _, _, _, _, _, _, _, _, _, _, _, _, _, _, _, _, _]) j5 Z Z Z Z Z Z .head Z Z<|z6<|yg (by kernel_rfl) ?_
    exact ⟨6, zR4, trivial, zLe, by rw [h7]; rfl⟩
   ·have hb := hck 7
    refine zq (fun j => Nat.beq j 12) (by kernel_rfl) Z (zr (.rest _))<|zTk 0 Z (zMp Z)<|zTk 1 Z (zMi Z)<|zTk 2 Z (zy Z)<|zTk 3 Z (zc j9 Z Z9 (by decide) Z Z)<|zTk 4 Z (zc jr Z Y2 (by decide) Z Z)<|zTk 5 Z (q9 (j := 7) Zm j5 Z Z h7 (by decide) Z)<|yk (i := 8) Z (by kernel_rfl) (by kernel_rfl) (by kernel_rfl) (by kernel_rfl) (zy Z)<|yk (i := 9) Z (by kernel_rfl) (by kernel_rfl) (by kernel_rfl) (by kernel_rfl) (zc j9 Z Z9 (by decide) Z Z)<|yk (i := 10) Z (by kernel_rfl) (by kernel_rfl) (by kernel_rfl) (by kernel_rfl) (zc jr Z Y2 (by decide) Z Z)<|zOn 6 Z<|z8 (zi (c := .int _ _) jd Z ⟨_, .head⟩ Z)<|z6<|zTk 7 Z (zAd Z Z)<|zTk 11 Z (q9 (j := 7) Zm j5 Z Z h7 (by decide) Z)<|yc<|yd (i := 12) Z (by kernel_rfl) (by kernel_rfl)<|y1 (l := [_]) (new := [_, _, _, _, _, _, _, _, _, _, _, _, _, _, _, _, _, _, _, _, _, _, _]) j5 Z Z Z Z Z Z .head Z Z<|z6<|yg (by kernel_rfl) ?_
    exact ⟨7, zR4, trivial, zLe, by rw [h7]; rfl⟩
  ·rintro g hgt
   have hgn : (x.op - 17).toNat = g := by omega
   have hal : 0 < x.args.length := by
    obtain ⟨j, hj⟩ : ∃ j : Nat, x.op = (j : Int) := ⟨x.op.toNat, by omega⟩
    rw [hargc, hj, Int.toNat_natCast]
    have : j = 18 ∨ j = 19 ∨ j = 20 ∨ j = 21 ∨ j = 22 ∨ j = 23 ∨ j = 24 := by omega
    rcases this with h | h | h | h | h | h | h <;> (rw [h]; decide)
   have ho : arg_ok f x.op x.args := ⟨hc.1, hc.2, hal, fun v hv => has_lt (hx.args v hv)⟩
   refine zb<|zSr<|zVzMp Z<|z8 (yf (v := .str _) Z)<|zVzFF jf Z je Z Z<|zVzLf jn Z<|yh Z (zr (.l (.l (.l (.l (.l (.l (.l (.rest _))))))))) (wpasses_spec f iw ja jb jc jo jt ids (bumpG s g) x.op x.args hids (hg.bump g) ho) ?_
   rintro r42 O42 ⟨rfl, rfl⟩
   refine zVGvnot Z<|z6<|zz Z (fun cp=>?_) (fun cp=>?_)
   ·have hp : ¬ passG s x.op x.args = true := fun h => by have h2 : passG (bumpG s g) x.op x.args = true := h; rw [h2] at cp; cases cp
    have hI : instG s x = trapG (bumpG s g) t := by unfold instG; rw [if_pos hc, if_neg hp, hgn, ht]
    refine zSr<|zVzMp Z<|zVzMi Z<|zVGvnilCheckO Z<|z8 (zc j9 Z Z9 (by decide) Z Z)<|z8 (zc jr Z sizeOf46 (by decide) Z Z)<|y1 (l := [_]) (new := [_, _, _, _, _, _, _, _, _, _, _, _, _, _, _, _, _, _, _, _, _, _, _]) sizeOf46 Z Z Z Z Z Z .head Z Z<|z6<|zRg<|zVzMp Z<|yh Z (zr (.l (.l (.l (.l (.l (.l (.l (.rest _))))))))) (wend_spec f iw ja jb jc jo jt ids { bumpG s g with tr := t } 1) ?_
    rintro r50 O50 ⟨rfl, rfl⟩
    refine z6<|zf<|yt ?_
    exact ⟨jo, jt, ids, by rw [hI]; exact hids, rfl, by rw [hI]; rfl⟩
   ·have hp : passG s x.op x.args = true := by cases h : passG s x.op x.args; have h2 : passG (bumpG s g) x.op x.args = false := h; rw [h2] at cp; cases cp; rfl
    have hI : instG s x = bumpG s g := by unfold instG; rw [if_pos hc, if_pos hp, hgn]
    refine ze<|zf<|yt ?_
    exact ⟨jo, jt, ids, by rw [hI]; exact hids, rfl, by rw [hI]; rfl⟩
 ·have hc : ¬ (18 ≤ x.op ∧ x.op ≤ 24) := fun h => by rw [if_pos h] at ht; omega
  refine ze<|zSr<|zVzFF jf Z je Z Z<|zVzLf jn Z<|z8 (zAf Z)<|z6<|zSr<|zVzAi Z<|zVzAi Z<|z6<|zSr<|zVzAb Z<|zVzAb Z<|zVzAi Z<|z6<|zb<|zSr<|zVzMf Z<|zVGvlenM j4 Z<|z8 (yy Z Z)<|z6<|yn (γ := Int × Bool × Int) [0, 3, 4, 6, 8, 10] (fun u => [(7, .int .i64 u.1), (9, .bool u.2.1), (11, .int .i64 u.2.2)]) (fun u => wO f iw ja jb jc jo jt ids s) (fun u => 0 < x.args.length → u = (aG s x, pG s x, rG s x)) ?_ (fun _ _ h => h) ?_
  ·refine zk Z (fun ca=>?_) (fun ca=>?_)
   ·have ca : 0 < x.args.length := by omega
    obtain ⟨q0, r0⟩ := hx.a0 ca
    refine zq (fun j => false) (by kernel_rfl) Z (zr (.r (.r (.r (.r (.rest _))))))<|zTk 0 Z (zMp Z)<|zTk 1 Z (zy Z)<|zTk 2 Z (zc j9 Z Za (by decide) Z Z)<|zTk 3 Z (zi (c := .own _ _) Zn Z ⟨_, .head⟩ Z)<|zTk 4 Z (zMf Z)<|zTk 5 Z (zIM 0 j4 j5 Z Z Z (get0 ca))<|zTk 6 Z (zLi jd Z)<|zTk 7 Z (yj (j := (ar0 x).toNat) jj Z3 Z Z (w3 r0).symm ⟨_, .t1⟩ ((cI_len _).trans hl1) (by omega))<|zTk 8 Z (qh (j := (ar0 x).toNat) Y7 Z ⟨_, .t1⟩ (vi_get (by omega) r0))<|zTk 9 Z (zMp Z)<|zTk 10 Z (zy Z)<|zTk 11 Z (zc j9 Z Yk (by decide) Z Z)<|zTk 12 Z (zi (c := .own _ _) Yu Z ⟨_, .head⟩ Z)<|zTk 13 Z (zMf Z)<|zTk 14 Z (zIM 0 j4 j5 Z Z Z (get0 ca))<|zTk 15 Z (zLi jd Z)<|zTk 16 Z (yj (j := (ar0 x).toNat) jk Z6 Z Z (w3 r0).symm ⟨_, .t2⟩ ((cB_len _).trans hl2) (by omega))<|zTk 17 Z (Gv.loadB (j := (ar0 x).toNat) Yn Z ⟨_, .t2⟩ (gb_get (by omega) r0))<|zTk 18 Z (zMp Z)<|zTk 19 Z (zy Z)<|zTk 20 Z (zc j9 Z je (by decide) Z Z)<|zTk 21 Z (zi (c := .own _ _) jn Z ⟨_, .head⟩ Z)<|zTk 22 Z (zMf Z)<|zTk 23 Z (zIM 0 j4 j5 Z Z Z (get0 ca))<|zTk 24 Z (zLi jd Z)<|zTk 25 Z (yj (j := (ar0 x).toNat) j4 j5 Z Z (w3 r0).symm ⟨_, .t3⟩ ((cI_len _).trans hl3) (by omega))<|zTk 26 Z (qh (j := (ar0 x).toNat) jd Z ⟨_, .t3⟩ (vi_get (by omega) r0))<|zTk 27 Z (zAi Z)<|zTk 28 Z (zAb Z)<|zTk 29 Z (zAi Z)<|zDn ?_
    exact ⟨(aG s x, pG s x, rG s x), ⟨rfl, rfl, rfl, rfl, rfl, rfl, trivial⟩, zR3, zLe, fun _ => rfl⟩
   ·refine ze ?_
    exact ⟨(0, false, -1), ⟨rfl, rfl, rfl, rfl, rfl, rfl, trivial⟩, zR3, zLe, fun h => absurd h (by omega)⟩
  ·rintro ⟨a, p, r⟩ hu
   refine zb<|zSr<|zVzMf Z<|zVGvlenM j4 Z<|z8 (yy Z Z)<|z6<|yn (γ := Int × Bool) [0, 3, 4, 6, 7, 9, 11] (fun u => [(8, .int .i64 u.1), (10, .bool u.2)]) (fun u => wO f iw ja jb jc jo jt ids s) (fun u => 1 < x.args.length → u = (bG s x, qG s x)) ?_ (fun _ _ h => h) ?_
   ·refine zk Z (fun ca=>?_) (fun ca=>?_)
    ·have ca : 1 < x.args.length := by omega
     obtain ⟨q0, r0⟩ := hx.a1 ca
     refine zq (fun j => false) (by kernel_rfl) Z (zr (.r (.r (.r (.rest _)))))<|zTk 0 Z (zMp Z)<|zTk 1 Z (zy Z)<|zTk 2 Z (zc j9 Z Za (by decide) Z Z)<|zTk 3 Z (zi (c := .own _ _) Zn Z ⟨_, .head⟩ Z)<|zTk 4 Z (zMf Z)<|zTk 5 Z (zIM 1 j4 j5 Z Z Z (get0 ca))<|zTk 6 Z (zLi jd Z)<|zTk 7 Z (yj (j := (ar1 x).toNat) jj Z3 Z Z (w3 r0).symm ⟨_, .t1⟩ ((cI_len _).trans hl1) (by omega))<|zTk 8 Z (qh (j := (ar1 x).toNat) Y7 Z ⟨_, .t1⟩ (vi_get (by omega) r0))<|zTk 9 Z (zMp Z)<|zTk 10 Z (zy Z)<|zTk 11 Z (zc j9 Z Yk (by decide) Z Z)<|zTk 12 Z (zi (c := .own _ _) Yu Z ⟨_, .head⟩ Z)<|zTk 13 Z (zMf Z)<|zTk 14 Z (zIM 1 j4 j5 Z Z Z (get0 ca))<|zTk 15 Z (zLi jd Z)<|zTk 16 Z (yj (j := (ar1 x).toNat) jk Z6 Z Z (w3 r0).symm ⟨_, .t2⟩ ((cB_len _).trans hl2) (by omega))<|zTk 17 Z (Gv.loadB (j := (ar1 x).toNat) Yn Z ⟨_, .t2⟩ (gb_get (by omega) r0))<|zTk 18 Z (zAi Z)<|zTk 19 Z (zAb Z)<|zDn ?_
     exact ⟨(bG s x, qG s x), zR7, zR2, zLe, fun _ => rfl⟩
    ·refine ze ?_
     exact ⟨(0, false), zR7, zR2, zLe, fun h => absurd h (by omega)⟩
   ·rintro ⟨b, q⟩ hw
    refine zSr<|zVzFF jf Z j5 Z Z<|zVzLi jd Z<|zVzAi Z<|z6<|zSr<|z8 (yf (v := .str _) Z)<|z6<|zh<|zSr<|z8 (yw Z Z)<|zVzAb Z<|z6<|zk Z (fun c0=>?_) (fun c0=>?_)
    ·have e : x.op = 0 := (word_op hop 0 (by decide) rfl).1 c0
     obtain ⟨d1, d0⟩ := hx.made (by rw [e]; decide)
     have hI : instG s x = stI s x.dst x.num := by rw [inst_do hc]; unfold doG; simp [e]
     refine zq (fun j => Nat.beq j 8) (by kernel_rfl) Z (zr (.r (.rest _)))<|zTk 0 Z (zMp Z)<|zTk 1 Z (zy Z)<|zTk 2 Z (zc j9 Z Za (by decide) Z Z)<|zTk 3 Z (zi (c := .own _ _) Zn Z ⟨_, .head⟩ Z)<|zTk 4 Z (zMi Z)<|zTk 5 Z (zFF jf Z Z3 Z Z)<|zTk 6 Z (zLi Y7 Z)<|zOn 7 Z<|z8 (yj (j := x.dst.toNat) jj Z3 Z Z (w3 d0).symm ⟨_, .head⟩ ((cI_len _).trans hl1) (by omega))<|z6<|yc<|yd (i := 8) Z (by kernel_rfl) (by kernel_rfl)<|q6 (j := x.dst.toNat) Z3 Z Z .t1 (by first | omega | (simp; omega))<|z6<|yg (by kernel_rfl)<|yt ?_
     exact ⟨jo, jt, ids, by rw [hI]; exact hids, rfl, by rw [hI]; rfl⟩
    ·have n0 : ¬ x.op = 0 := fun e => c0 ((word_op hop 0 (by decide) rfl).2 e)
     refine zb<|zSr<|z8 (yw Z Z)<|zVzAb Z<|z6<|yn (γ := Bool) [0, 3, 4, 6, 7, 8, 9, 10, 11, 12, 106] (fun z => [(117, .bool z)]) (fun z => wO f iw ja jb jc jo jt ids s) (fun z => z = decide (x.op = 1 ∨ x.op = 25 ∨ x.op = 26)) ?_ (fun _ _ h => h) ?_
     ·refine zk Z (fun c1=>?_) (fun c1=>?_)
      ·have e : x.op = 1 := (word_op hop 1 (by decide) rfl).1 c1
       refine ze ?_
       exact ⟨_, zR11, zR1, zLe, by rw [qy c1, e]; rfl⟩
      ·have n1 : ¬ x.op = 1 := fun e => c1 ((word_op hop 1 (by decide) rfl).2 e)
       refine zSr<|z8 (yw Z Z)<|zVzAb Z<|z6<|zk Z (fun c25=>?_) (fun c25=>?_)
       ·have e : x.op = 25 := (word_op hop 25 (by decide) rfl).1 c25
        refine ze ?_
        exact ⟨_, zR11, zR1, zLe, by rw [qy c25, e]; rfl⟩
       ·have n25 : ¬ x.op = 25 := fun e => c25 ((word_op hop 25 (by decide) rfl).2 e)
        refine zRg<|z8 (yw Z Z)<|zVzAb Z<|z6 ?_
        exact ⟨_, zR11, zR1, zLe, by rw [decide_eq_decide]; exact ⟨fun h => .inr (.inr ((word_op hop 26 (by decide) rfl).1 h)), fun h => (word_op hop 26 (by decide) rfl).2 ((h.resolve_left n1).resolve_left n25)⟩⟩
     ·rintro z hz
      refine zz Z (fun cz=>?_) (fun cz=>?_)
      ·have e : x.op = 1 ∨ x.op = 25 ∨ x.op = 26 := of_decide_eq_true (hz.symm.trans cz)
       obtain ⟨d1, d0⟩ := hx.made (by rcases e with e | e | e <;> (rw [e]; decide))
       obtain ⟨rfl, rfl, rfl⟩ : a = aG s x ∧ p = pG s x ∧ r = rG s x := by have := hu (by rcases e with e | e | e <;> (rw [hargc, e]; decide)); simpa using this
       have hI : instG s x = stA (stB (stI s x.dst (aG s x)) x.dst (pG s x)) x.dst (rG s x) := by rw [inst_do hc]; unfold doG; rw [if_neg n0, if_pos e]
       refine AWP.regionDrawR (by kernel_rfl) Z (zr (.r (.l (.l (.l (.l (.l (.l (.rest _)))))))))<|y7 (i := 0) Z (by kernel_rfl) (by kernel_rfl) (by kernel_rfl) (zMp Z)<|y7 (i := 1) Z (by kernel_rfl) (by kernel_rfl) (by kernel_rfl) (zy Z)<|y7 (i := 2) Z (by kernel_rfl) (by kernel_rfl) (by kernel_rfl) (zc j9 Z Za (by decide) Z Z)<|y7 (i := 3) Z (by kernel_rfl) (by kernel_rfl) (by kernel_rfl) (zi (c := .own _ _) Zn Z ⟨_, .head⟩ Z)<|y7 (i := 4) Z (by kernel_rfl) (by kernel_rfl) (by kernel_rfl) (zMi Z)<|y7 (i := 5) Z (by kernel_rfl) (by kernel_rfl) (by kernel_rfl) (zMp Z)<|y7 (i := 6) Z (by kernel_rfl) (by kernel_rfl) (by kernel_rfl) (zy Z)<|y7 (i := 7) Z (by kernel_rfl) (by kernel_rfl) (by kernel_rfl) (zc j9 Z Yk (by decide) Z Z)<|y7 (i := 8) Z (by kernel_rfl) (by kernel_rfl) (by kernel_rfl) (zi (c := .own _ _) Yu Z ⟨_, .head⟩ Z)<|y7 (i := 9) Z (by kernel_rfl) (by kernel_rfl) (by kernel_rfl) (zMi Z)<|y7 (i := 10) Z (by kernel_rfl) (by kernel_rfl) (by kernel_rfl) (zMp Z)<|y7 (i := 11) Z (by kernel_rfl) (by kernel_rfl) (by kernel_rfl) (zy Z)<|y7 (i := 12) Z (by kernel_rfl) (by kernel_rfl) (by kernel_rfl) (zc j9 Z je (by decide) Z Z)<|y7 (i := 13) Z (by kernel_rfl) (by kernel_rfl) (by kernel_rfl) (zi (c := .own _ _) jn Z ⟨_, .head⟩ Z)<|y7 (i := 14) Z (by kernel_rfl) (by kernel_rfl) (by kernel_rfl) (zMi Z)<|y7 (i := 15) Z (by kernel_rfl) (by kernel_rfl) (by kernel_rfl) (zMi Z)<|y7 (i := 16) Z (by kernel_rfl) (by kernel_rfl) (by kernel_rfl) (zMb Z)<|y7 (i := 17) Z (by kernel_rfl) (by kernel_rfl) (by kernel_rfl) (zMi Z)<|ql (i := 18) Z (by kernel_rfl)<|z8 (yj (j := x.dst.toNat) jj Z3 Z Z (w3 d0).symm ⟨_, .head⟩ ((cI_len _).trans hl1) (by omega))<|z6<|ql (i := 19) Z (by kernel_rfl)<|q6 (j := x.dst.toNat) Z3 Z Z .head (by first | omega | (simp; omega))<|z6<|ql (i := 20) Z (by kernel_rfl)<|z8 (yj (j := x.dst.toNat) jk Z6 Z Z (w3 d0).symm ⟨_, .t1⟩ ((cB_len _).trans hl2) (by omega))<|z6<|ql (i := 21) Z (by kernel_rfl)<|qd (j := x.dst.toNat) Z6 Z Z .t1 (by first | omega | (simp; omega))<|z6<|ql (i := 22) Z (by kernel_rfl)<|z8 (yj (j := x.dst.toNat) j4 j5 Z Z (w3 d0).symm ⟨_, .t2⟩ ((cI_len _).trans hl3) (by omega))<|z6<|ql (i := 23) Z (by kernel_rfl)<|q6 (j := x.dst.toNat) j5 Z Z .t2 (by first | omega | (simp; omega))<|z6<|AAnyR.done (by kernel_rfl)<|yt ?_
       exact ⟨jo, jt, ids, by rw [hI]; exact hids, rfl, by rw [hI]; rfl⟩
      ·have n1 : ¬ (x.op = 1 ∨ x.op = 25 ∨ x.op = 26) := of_decide_eq_false (hz.symm.trans cz)
       refine zb<|zSr<|z8 (yw Z Z)<|zVzAb Z<|z6<|yn (γ := Bool) [0, 3, 4, 6, 7, 8, 9, 10, 11, 12, 106] (fun z => [(142, .bool z)]) (fun z => wO f iw ja jb jc jo jt ids s) (fun z => z = decide (x.op = 2 ∨ x.op = 3 ∨ x.op = 4)) ?_ (fun _ _ h => h) ?_
       ·refine zk Z (fun c2=>?_) (fun c2=>?_)
        ·have e : x.op = 2 := (word_op hop 2 (by decide) rfl).1 c2
         refine ze ?_
         exact ⟨_, zR11, zR1, zLe, by rw [qy c2, e]; rfl⟩
        ·have n2 : ¬ x.op = 2 := fun e => c2 ((word_op hop 2 (by decide) rfl).2 e)
         refine zSr<|z8 (yw Z Z)<|zVzAb Z<|z6<|zk Z (fun c3=>?_) (fun c3=>?_)
         ·have e : x.op = 3 := (word_op hop 3 (by decide) rfl).1 c3
          refine ze ?_
          exact ⟨_, zR11, zR1, zLe, by rw [qy c3, e]; rfl⟩
         ·have n3 : ¬ x.op = 3 := fun e => c3 ((word_op hop 3 (by decide) rfl).2 e)
          refine zRg<|z8 (yw Z Z)<|zVzAb Z<|z6 ?_
          exact ⟨_, zR11, zR1, zLe, by rw [decide_eq_decide]; exact ⟨fun h => .inr (.inr ((word_op hop 4 (by decide) rfl).1 h)), fun h => (word_op hop 4 (by decide) rfl).2 ((h.resolve_left n2).resolve_left n3)⟩⟩
       ·rintro z hz2
        refine zz Z (fun cz2=>?_) (fun cz2=>?_)
        ·have e : x.op = 2 ∨ x.op = 3 ∨ x.op = 4 := of_decide_eq_true (hz2.symm.trans cz2)
         obtain ⟨d1, d0⟩ := hx.made (by rcases e with e | e | e <;> (rw [e]; decide))
         obtain ⟨rfl, _, _⟩ : a = aG s x ∧ p = pG s x ∧ r = rG s x := by have := hu (by rcases e with e | e | e <;> (rw [hargc, e]; decide)); simpa using this
         obtain ⟨rfl, _⟩ : b = bG s x ∧ q = qG s x := by have := hw (by rcases e with e | e | e <;> (rw [hargc, e]; decide)); simpa using this
         obtain ⟨k, hk, hxk⟩ : ∃ k : Nat, k ≤ 2 ∧ x.op - 2 = (k : Int) := ⟨(x.op - 2).toNat, by omega, by omega⟩
         have hI : instG s x = stI s x.dst (IntKind.i64.wrap (op3 k (aG s x) (bG s x))) := by
          rw [inst_do hc]; unfold doG; rw [if_neg n0, if_neg n1]
          have : k = 0 ∨ k = 1 ∨ k = 2 := by omega
          rcases this with rfl | rfl | rfl
          ·rw [if_pos (by omega)]
          ·rw [if_neg (by omega), if_pos (by omega)]
          ·rw [if_neg (by omega), if_neg (by omega), if_pos (by omega)]
         have hwr := rWrap (E := E) hk (x := aG s x) (y := bG s x)
         rw [← hxk] at hwr
         refine zq (fun j => Nat.beq j 12) (by kernel_rfl) Z (zr (.r (.rest _)))<|zTk 0 Z (zMp Z)<|zTk 1 Z (zy Z)<|zTk 2 Z (zc j9 Z Za (by decide) Z Z)<|zTk 3 Z (zi (c := .own _ _) Zn Z ⟨_, .head⟩ Z)<|zTk 4 Z (zMi Z)<|zTk 5 Z (zFF jf Z Zv Z Z)<|zTk 6 Z (zLi Y4 Z)<|zTk 7 Z (Gv.sub Z Z (by unfold I64; omega))<|zTk 8 Z (zMi Z)<|zTk 9 Z (zMi Z)<|zOn 10 Z<|zg (hwr) Z<|z6<|zOn 11 Z<|z8 (yj (j := x.dst.toNat) jj Z3 Z Z (w3 d0).symm ⟨_, .head⟩ ((cI_len _).trans hl1) (by omega))<|z6<|yc<|yd (i := 12) Z (by kernel_rfl) (by kernel_rfl)<|q6 (j := x.dst.toNat) Z3 Z Z .t1 (by first | omega | (simp; omega))<|z6<|yg (by kernel_rfl)<|yt ?_
         exact ⟨jo, jt, ids, by rw [hI]; exact hids, rfl, by rw [hI]; rfl⟩
        ·have n2 : ¬ (x.op = 2 ∨ x.op = 3 ∨ x.op = 4) := of_decide_eq_false (hz2.symm.trans cz2)
         refine zb<|zSr<|z8 (yw Z Z)<|zVzAb Z<|z6<|yn (γ := Bool) [0, 4, 6, 7, 8, 9, 10, 11, 12, 106] (fun z => [(158, .bool z)]) (fun z => wO f iw ja jb jc jo jt ids s) (fun z => z = decide (x.op = 5 ∨ x.op = 6)) ?_ (fun _ _ h => h) ?_
         ·refine zk Z (fun c5=>?_) (fun c5=>?_)
          ·have e : x.op = 5 := (word_op hop 5 (by decide) rfl).1 c5
           refine ze ?_
           exact ⟨_, zR10, zR1, zLe, by rw [qy c5, e]; rfl⟩
          ·have n5 : ¬ x.op = 5 := fun e => c5 ((word_op hop 5 (by decide) rfl).2 e)
           refine zRg<|z8 (yw Z Z)<|zVzAb Z<|z6 ?_
           exact ⟨_, zR10, zR1, zLe, by rw [decide_eq_decide]; exact ⟨fun h => .inr ((word_op hop 6 (by decide) rfl).1 h), fun h => (word_op hop 6 (by decide) rfl).2 (h.resolve_left n5)⟩⟩
         ·rintro z hz3
          refine zz Z (fun cz3=>?_) (fun cz3=>?_)
          ·have e : x.op = 5 ∨ x.op = 6 := of_decide_eq_true (hz3.symm.trans cz3)
           obtain ⟨d1, d0⟩ := hx.made (by rcases e with e | e <;> (rw [e]; decide))
           obtain ⟨rfl, _, _⟩ : a = aG s x ∧ p = pG s x ∧ r = rG s x := by have := hu (by rcases e with e | e <;> (rw [hargc, e]; decide)); simpa using this
           obtain ⟨rfl, _⟩ : b = bG s x ∧ q = qG s x := by have := hw (by rcases e with e | e <;> (rw [hargc, e]; decide)); simpa using this
           have hD : doG s x = if bG s x = 0 then stopG s 2 else stI s x.dst (if x.op = 6 then remG (aG s x) (bG s x) else quoG (aG s x) (bG s x)) := by
            rcases e with e | e <;> (unfold doG; simp [e])
           refine zb<|zSr<|zVzMi Z<|zVGveqlI Z Z<|z6<|zk Z (fun c0b=>?_) (fun c0b=>?_)
           ·have hI : instG s x = stopG s 2 := by rw [inst_do hc, hD, if_pos (by omega)]
            refine zSr<|zVzMp Z<|yh Z (zr (.l (.l (.l (.l (.l (.l (.l (.rest _))))))))) (wend_spec f iw ja jb jc jo jt ids s 2) ?_
            rintro r164 O164 ⟨rfl, rfl⟩
            refine z6<|zf<|yt ?_
            exact ⟨jo, jt, ids, by rw [hI]; exact hids, rfl, by rw [hI]; rfl⟩
           ·have hb0 : ¬ bG s x = 0 := by omega
            have hI : instG s x = stI s x.dst (if x.op = 6 then remG (aG s x) (bG s x) else quoG (aG s x) (bG s x)) := by rw [inst_do hc, hD, if_neg hb0]
            refine ze<|zSr<|zVzMi Z<|zVzMi Z<|zg (rDiv2 hb0) Z<|z8 (zMu Z)<|z8 (zXi Z Z)<|z8 (zXi Z Z)<|zVzAi Z<|zVzAi Z<|z6<|zb<|zSr<|z8 (yf (v := .str _) Z)<|z8 (yw Z Z)<|z6<|yn (γ := Int) [0, 12] (fun v => [(13, .int .i64 v)]) (fun v => wO f iw ja jb jc jo jt ids s) (fun v => v = if x.op = 6 then remG (aG s x) (bG s x) else quoG (aG s x) (bG s x)) ?_ (fun _ _ h => h) ?_
            ·refine zk Z (fun c6=>?_) (fun c6=>?_)
             ·have e6 : x.op = 6 := (word_op hop 6 (by decide) rfl).1 c6
              refine zRg<|zVzMi Z<|zVzAi Z<|z6 ?_
              exact ⟨_, zR2, zR1, zLe, by rw [if_pos e6]; rfl⟩
             ·have e6 : ¬ x.op = 6 := fun e => c6 ((word_op hop 6 (by decide) rfl).2 e)
              refine ze ?_
              exact ⟨_, zR2, zR1, zLe, by rw [if_neg e6]; rfl⟩
            ·rintro v hv3
             rw [← hv3] at hI
             refine zRg<|zVzMp Z<|zVGvnilCheckO Z<|z8 (zc j9 Z Za (by decide) Z Z)<|z8 (zi (c := .own _ _) Zn Z ⟨_, .head⟩ Z)<|zVzMi Z<|zVzMi Z<|z8 (yj (j := x.dst.toNat) jj Z3 Z Z (w3 d0).symm ⟨_, .t1⟩ ((cI_len _).trans hl1) (by omega))<|q6 (j := x.dst.toNat) Z3 Z Z .t1 (by first | omega | (simp; omega))<|z6<|yt ?_
             exact ⟨jo, jt, ids, by rw [hI]; exact hids, rfl, by rw [hI]; rfl⟩
          ·have n5 : ¬ (x.op = 5 ∨ x.op = 6) := of_decide_eq_false (hz3.symm.trans cz3)
           refine zSr<|z8 (yw Z Z)<|zVzAb Z<|z6<|zk Z (fun c7=>?_) (fun c7=>?_)
           ·have e : x.op = 7 := (word_op hop 7 (by decide) rfl).1 c7
            obtain ⟨d1, d0⟩ := hx.made (by rw [e]; decide)
            obtain ⟨rfl, _, _⟩ : a = aG s x ∧ p = pG s x ∧ r = rG s x := by have := hu (by rw [hargc, e]; decide); simpa using this
            obtain ⟨rfl, _⟩ : b = bG s x ∧ q = qG s x := by have := hw (by rw [hargc, e]; decide); simpa using this
            have hI : instG s x = stB s x.dst (decide (aG s x = bG s x)) := by rw [inst_do hc]; unfold doG; simp [e]
            refine zRg<|zVzMp Z<|zVGvnilCheckO Z<|z8 (zc j9 Z Yk (by decide) Z Z)<|z8 (zi (c := .own _ _) Yu Z ⟨_, .head⟩ Z)<|zVzMi Z<|zVzMi Z<|zVzMi Z<|zVGveqlI Z Z<|z8 (yj (j := x.dst.toNat) jk Z6 Z Z (w3 d0).symm ⟨_, .t2⟩ ((cB_len _).trans hl2) (by omega))<|qd (j := x.dst.toNat) Z6 Z Z .t2 (by first | omega | (simp; omega))<|z6<|yt ?_
            exact ⟨jo, jt, ids, by rw [hI]; exact hids, rfl, by rw [hI]; rfl⟩
           ·have n7 : ¬ x.op = 7 := fun e => c7 ((word_op hop 7 (by decide) rfl).2 e)
            refine zSr<|z8 (yw Z Z)<|zVzAb Z<|z6<|zk Z (fun c8=>?_) (fun c8=>?_)
            ·have e : x.op = 8 := (word_op hop 8 (by decide) rfl).1 c8
             obtain ⟨d1, d0⟩ := hx.made (by rw [e]; decide)
             obtain ⟨rfl, _, _⟩ : a = aG s x ∧ p = pG s x ∧ r = rG s x := by have := hu (by rw [hargc, e]; decide); simpa using this
             obtain ⟨rfl, _⟩ : b = bG s x ∧ q = qG s x := by have := hw (by rw [hargc, e]; decide); simpa using this
             have hI : instG s x = stB s x.dst (decide (aG s x < bG s x)) := by rw [inst_do hc]; unfold doG; simp [e]
             refine zRg<|zVzMp Z<|zVGvnilCheckO Z<|z8 (zc j9 Z Yk (by decide) Z Z)<|z8 (zi (c := .own _ _) Yu Z ⟨_, .head⟩ Z)<|zVzMi Z<|zVzMi Z<|zVzMi Z<|zVGvlss Z Z<|z8 (yj (j := x.dst.toNat) jk Z6 Z Z (w3 d0).symm ⟨_, .t2⟩ ((cB_len _).trans hl2) (by omega))<|qd (j := x.dst.toNat) Z6 Z Z .t2 (by first | omega | (simp; omega))<|z6<|yt ?_
             exact ⟨jo, jt, ids, by rw [hI]; exact hids, rfl, by rw [hI]; rfl⟩
            ·have n8 : ¬ x.op = 8 := fun e => c8 ((word_op hop 8 (by decide) rfl).2 e)
             refine zSr<|z8 (yw Z Z)<|zVzAb Z<|z6<|zk Z (fun c9=>?_) (fun c9=>?_)
             ·have e : x.op = 9 := (word_op hop 9 (by decide) rfl).1 c9
              obtain ⟨d1, d0⟩ := hx.made (by rw [e]; decide)
              obtain ⟨rfl, _, _⟩ : a = aG s x ∧ p = pG s x ∧ r = rG s x := by have := hu (by rw [hargc, e]; decide); simpa using this
              obtain ⟨rfl, _⟩ : b = bG s x ∧ q = qG s x := by have := hw (by rw [hargc, e]; decide); simpa using this
              have hI : instG s x = stB s x.dst (decide (aG s x ≤ bG s x)) := by rw [inst_do hc]; unfold doG; simp [e]
              refine zRg<|zVzMp Z<|zVGvnilCheckO Z<|z8 (zc j9 Z Yk (by decide) Z Z)<|z8 (zi (c := .own _ _) Yu Z ⟨_, .head⟩ Z)<|zVzMi Z<|zVzMi Z<|zVzMi Z<|z8 (Gv.leq Z Z)<|z8 (yj (j := x.dst.toNat) jk Z6 Z Z (w3 d0).symm ⟨_, .t2⟩ ((cB_len _).trans hl2) (by omega))<|qd (j := x.dst.toNat) Z6 Z Z .t2 (by first | omega | (simp; omega))<|z6<|yt ?_
              exact ⟨jo, jt, ids, by rw [hI]; exact hids, rfl, by rw [hI]; rfl⟩
             ·have n9 : ¬ x.op = 9 := fun e => c9 ((word_op hop 9 (by decide) rfl).2 e)
              refine zSr<|z8 (yw Z Z)<|zVzAb Z<|z6<|zk Z (fun c10=>?_) (fun c10=>?_)
              ·have e : x.op = 10 := (word_op hop 10 (by decide) rfl).1 c10
               obtain ⟨d1, d0⟩ := hx.made (by rw [e]; decide)
               obtain ⟨_, rfl, _⟩ : a = aG s x ∧ p = pG s x ∧ r = rG s x := by have := hu (by rw [hargc, e]; decide); simpa using this
               have hI : instG s x = stB s x.dst (!pG s x) := by rw [inst_do hc]; unfold doG; simp [e]
               refine zRg<|zVzMp Z<|zVGvnilCheckO Z<|z8 (zc j9 Z Yk (by decide) Z Z)<|z8 (zi (c := .own _ _) Yu Z ⟨_, .head⟩ Z)<|zVzMi Z<|zVzMb Z<|zVGvnot Z<|z8 (yj (j := x.dst.toNat) jk Z6 Z Z (w3 d0).symm ⟨_, .t2⟩ ((cB_len _).trans hl2) (by omega))<|qd (j := x.dst.toNat) Z6 Z Z .t2 (by first | omega | (simp; omega))<|z6<|yt ?_
               exact ⟨jo, jt, ids, by rw [hI]; exact hids, rfl, by rw [hI]; rfl⟩
              ·have n10 : ¬ x.op = 10 := fun e => c10 ((word_op hop 10 (by decide) rfl).2 e)
               refine zSr<|z8 (yw Z Z)<|zVzAb Z<|z6<|zk Z (fun c11=>?_) (fun c11=>?_)
               ·have e : x.op = 11 := (word_op hop 11 (by decide) rfl).1 c11
                obtain ⟨d1, d0⟩ := hx.made (by rw [e]; decide)
                obtain ⟨_, rfl, _⟩ : a = aG s x ∧ p = pG s x ∧ r = rG s x := by have := hu (by rw [hargc, e]; decide); simpa using this
                obtain ⟨_, rfl⟩ : b = bG s x ∧ q = qG s x := by have := hw (by rw [hargc, e]; decide); simpa using this
                have hI : instG s x = stB s x.dst (pG s x && qG s x) := by rw [inst_do hc]; unfold doG; simp [e]
                refine zRg<|zVzMp Z<|zVGvnilCheckO Z<|z8 (zc j9 Z Yk (by decide) Z Z)<|z8 (zi (c := .own _ _) Yu Z ⟨_, .head⟩ Z)<|zVzMi Z<|zVzMb Z<|zVzMb Z<|zo (s := 232) Z (fun cp=>?_) (fun cp=>?_)
                ·have cp : pG s x = true := cp
                 rw [cp, Bool.true_and] at hI
                 refine za Z Z cp<|zVzMb Z<|zVzPt Z cp Z<|z8 (yj (j := x.dst.toNat) jk Z6 Z Z (w3 d0).symm ⟨_, .t2⟩ ((cB_len _).trans hl2) (by omega))<|qd (j := x.dst.toNat) Z6 Z Z .t2 (by first | omega | (simp; omega))<|z6<|yt ?_
                 exact ⟨jo, jt, ids, by rw [hI]; exact hids, rfl, by rw [hI]; rfl⟩
                ·have cp : pG s x = false := cp
                 rw [cp, Bool.false_and] at hI
                 refine z7 Z Z cp<|zVzPf Z cp Z<|z8 (yj (j := x.dst.toNat) jk Z6 Z Z (w3 d0).symm ⟨_, .t2⟩ ((cB_len _).trans hl2) (by omega))<|qd (j := x.dst.toNat) Z6 Z Z .t2 (by first | omega | (simp; omega))<|z6<|yt ?_
                 exact ⟨jo, jt, ids, by rw [hI]; exact hids, rfl, by rw [hI]; rfl⟩
               ·have n11 : ¬ x.op = 11 := fun e => c11 ((word_op hop 11 (by decide) rfl).2 e)
                refine zSr<|z8 (yw Z Z)<|zVzAb Z<|z6<|zk Z (fun c12=>?_) (fun c12=>?_)
                ·have e : x.op = 12 := (word_op hop 12 (by decide) rfl).1 c12
                 obtain ⟨d1, d0⟩ := hx.made (by rw [e]; decide)
                 obtain ⟨_, _, rfl⟩ : a = aG s x ∧ p = pG s x ∧ r = rG s x := by have := hu (by rw [hargc, e]; decide); simpa using this
                 have hrr : rG s x < s.arrays.length := (arr_any hg (hx.a0 (by rw [hargc, e]; decide))).2
                 refine zb<|zSr<|zVzMi Z<|zVGvlss Z Z<|z6<|zk Z (fun cr=>?_) (fun cr=>?_)
                 ·have cr : rG s x < 0 := by omega
                  have hI : instG s x = stopG s 2 := by rw [inst_do hc]; unfold doG; simp [e, cr]
                  refine zSr<|zVzMp Z<|yh Z (zr (.l (.l (.l (.l (.l (.l (.l (.rest _))))))))) (wend_spec f iw ja jb jc jo jt ids s 2) ?_
                  rintro r241 O241 ⟨rfl, rfl⟩
                  refine z6<|zf<|yt ?_
                  exact ⟨jo, jt, ids, by rw [hI]; exact hids, rfl, by rw [hI]; rfl⟩
                 ·have cr : ¬ rG s x < 0 := by omega
                  have hI : instG s x = stI s x.dst ((rowG s (rG s x)).length) := by rw [inst_do hc]; unfold doG; simp [e, cr]
                  obtain ⟨w, hw0⟩ := get_id hids (j := (rG s x).toNat) (by omega)
                  refine ze<|zq (fun j => Nat.beq j 14) (by kernel_rfl) Z (zr (.r (.l (.l (.l (.r (.rest _)))))))<|zTk 0 Z (zMp Z)<|zTk 1 Z (zy Z)<|zTk 2 Z (zc j9 Z Za (by decide) Z Z)<|zTk 3 Z (zi (c := .own _ _) Zn Z ⟨_, .head⟩ Z)<|zTk 4 Z (zMi Z)<|zTk 5 Z (zMp Z)<|zTk 6 Z (zy Z)<|zTk 7 Z (zc j9 Z Y0 (by decide) Z Z)<|zTk 8 Z (zi (c := .own _ _) Yf Z ⟨_, .head⟩ Z)<|zTk 9 Z (zMi Z)<|zTk 10 Z (yj (j := (rG s x).toNat) Z7 Za Z Z (w3 (Int.not_lt.1 cr)).symm ⟨_, .t1⟩ (owns_len hids) (by omega))<|zTk 11 Z (Gv.load1G (c := _) Zn Z ⟨_, .t1⟩ (owns_drop hw0 (row_get (by omega) hrr)))<|zTk 12 Z (qj jj Z)<|zOn 13 Z<|z8 (yj (j := x.dst.toNat) jj Z3 Z Z (w3 d0).symm ⟨_, .head⟩ ((cI_len _).trans hl1) (by omega))<|z6<|yc<|yd (i := 14) Z (by kernel_rfl) (by kernel_rfl)<|q6 (j := x.dst.toNat) Z3 Z Z .t2 (by first | omega | (simp; omega))<|z6<|yg (by kernel_rfl)<|yz (zm (zp .t4))<|yz (zm (zp .t4))<|yz (zm (zp .t4))<|yz (zm (zp .t3))<|yt ?_
                  exact ⟨jo, jt, ids, by rw [hI]; exact hids, rfl, by rw [hI]; rfl⟩
                ·have n12 : ¬ x.op = 12 := fun e => c12 ((word_op hop 12 (by decide) rfl).2 e)
                 refine zSr<|z8 (yw Z Z)<|zVzAb Z<|z6<|zk Z (fun c13=>?_) (fun c13=>?_)
                 ·have e : x.op = 13 := (word_op hop 13 (by decide) rfl).1 c13
                  obtain ⟨d1, d0⟩ := hx.made (by rw [e]; decide)
                  obtain ⟨_, _, rfl⟩ : a = aG s x ∧ p = pG s x ∧ r = rG s x := by have := hu (by rw [hargc, e]; decide); simpa using this
                  obtain ⟨rfl, _⟩ : b = bG s x ∧ q = qG s x := by have := hw (by rw [hargc, e]; decide); simpa using this
                  refine zb<|zSr<|zVzMp Z<|zVzMi Z<|zVzMi Z<|yh Z (zr (.l (.l (.l (.l (.l (.l (.l (.rest _))))))))) (wplace_spec f iw ja jb jc jo jt ids s (rG s x) (bG s x) hids) ?_
                  rintro r261 O261 ⟨rfl, rfl⟩
                  refine zVGvnot Z<|z6<|zz Z (fun cp=>?_) (fun cp=>?_)
                  ·have cp : ¬ placeG s (rG s x) (bG s x) = true := by simpa using cp
                   have hI : instG s x = stopG s 2 := by rw [inst_do hc]; unfold doG; simp [e, cp]
                   refine zSr<|zVzMp Z<|yh Z (zr (.l (.l (.l (.l (.l (.l (.l (.rest _))))))))) (wend_spec f iw ja jb jc jo jt ids s 2) ?_
                   rintro r264 O264 ⟨rfl, rfl⟩
                   refine z6<|zf<|yt ?_
                   exact ⟨jo, jt, ids, by rw [hI]; exact hids, rfl, by rw [hI]; rfl⟩
                  ·have cp : placeG s (rG s x) (bG s x) = true := by simpa using cp
                   obtain ⟨h1, h2, h3, h4⟩ := place_iff.1 cp
                   obtain ⟨w, hw0⟩ := get_id hids (j := (rG s x).toNat) (by omega)
                   obtain ⟨X, hX1, hX2⟩ := zip_out rowA ids s.arrays _ hw0 (row_get h1 h2)
                   have hI : instG s x = stI s x.dst (vi (rowG s (rG s x)) (bG s x)) := by rw [inst_do hc]; unfold doG; simp [e, cp]
                   refine y6 (GStep.bagOut (i := w) (o := .grow 1 2 (cI (rowG s (rG s x)))) (X' := X) (hX1) .t6)<|ze<|zq (fun j => Nat.beq j 16) (by kernel_rfl) Z (zr (.r (.r (.l (.l (.l (.r (.rest _))))))))<|zTk 0 Z (zMp Z)<|zTk 1 Z (zy Z)<|zTk 2 Z (zc j9 Z Za (by decide) Z Z)<|zTk 3 Z (zi (c := .own _ _) Zn Z ⟨_, .t1⟩ Z)<|zTk 4 Z (zMi Z)<|zTk 5 Z (zMp Z)<|zTk 6 Z (zy Z)<|zTk 7 Z (zc j9 Z Y0 (by decide) Z Z)<|zTk 8 Z (zi (c := .own _ _) Yf Z ⟨_, .t1⟩ Z)<|zTk 9 Z (zMi Z)<|zTk 10 Z (yj (j := (rG s x).toNat) Z7 Za Z Z (w3 h1).symm ⟨_, .t2⟩ (owns_len hids) (by omega))<|zTk 11 Z (Gv.load1G (c := _) Zn Z ⟨_, .t2⟩ (owns_drop hw0 (row_get h1 h2)))<|zTk 12 Z (zMi Z)<|zTk 13 Z (yj (j := (bG s x).toNat) jj Z3 Z Z (w3 h3).symm ⟨_, .head⟩ (cI_len _) (by omega))<|zTk 14 Z (qh (j := (bG s x).toNat) Y7 Z ⟨_, .head⟩ (vi_get h4 h3))<|zOn 15 Z<|z8 (yj (j := x.dst.toNat) jj Z3 Z Z (w3 d0).symm ⟨_, .head⟩ ((cI_len _).trans hl1) (by omega))<|z6<|yc<|yd (i := 16) Z (by kernel_rfl) (by kernel_rfl)<|q6 (j := x.dst.toNat) Z3 Z Z .t3 (by first | omega | (simp; omega))<|z6<|yg (by kernel_rfl)<|yz (GStep.bagIn (X' := bagA ids s.arrays) .head (hX1.symm) .t6)<|yz (zm (zp .t4))<|yz (zm (zp .t4))<|yz (zm (zp .t4))<|yz (zm (zp .t3))<|yt ?_
                   exact ⟨jo, jt, ids, by rw [hI]; exact hids, rfl, by rw [hI]; rfl⟩
                 ·have n13 : ¬ x.op = 13 := fun e => c13 ((word_op hop 13 (by decide) rfl).2 e)
                  refine zSr<|z8 (yw Z Z)<|zVzAb Z<|z6<|zk Z (fun c14=>?_) (fun c14=>?_)
                  ·have e : x.op = 14 := (word_op hop 14 (by decide) rfl).1 c14
                   obtain ⟨_, _, rfl⟩ : a = aG s x ∧ p = pG s x ∧ r = rG s x := by have := hu (by rw [hargc, e]; decide); simpa using this
                   obtain ⟨rfl, _⟩ : b = bG s x ∧ q = qG s x := by have := hw (by rw [hargc, e]; decide); simpa using this
                   obtain ⟨q2, r2⟩ := hx.a2 (by rw [hargc, e]; decide)
                   have hal : 2 < x.args.length := by rw [hargc, e]; decide
                   refine zb<|zSr<|zVzMp Z<|zVzMi Z<|zVzMi Z<|yh Z (zr (.l (.l (.l (.l (.l (.l (.l (.rest _))))))))) (wplace_spec f iw ja jb jc jo jt ids s (rG s x) (bG s x) hids) ?_
                   rintro r286 O286 ⟨rfl, rfl⟩
                   refine zVGvnot Z<|z6<|zz Z (fun cp=>?_) (fun cp=>?_)
                   ·have cp : ¬ placeG s (rG s x) (bG s x) = true := by simpa using cp
                    have hI : instG s x = stopG s 2 := by rw [inst_do hc]; unfold doG; simp [e, cp]
                    refine zSr<|zVzMp Z<|yh Z (zr (.l (.l (.l (.l (.l (.l (.l (.rest _))))))))) (wend_spec f iw ja jb jc jo jt ids s 2) ?_
                    rintro r289 O289 ⟨rfl, rfl⟩
                    refine z6<|zf<|yt ?_
                    exact ⟨jo, jt, ids, by rw [hI]; exact hids, rfl, by rw [hI]; rfl⟩
                   ·have cp : placeG s (rG s x) (bG s x) = true := by simpa using cp
                    obtain ⟨h1, h2, h3, h4⟩ := place_iff.1 cp
                    obtain ⟨w, hw0⟩ := get_id hids (j := (rG s x).toNat) (by omega)
                    obtain ⟨X, hX1, hX2⟩ := zip_out rowA ids s.arrays _ hw0 (row_get h1 h2)
                    have hI : instG s x = { s with arrays := s.arrays.set (rG s x).toNat ((rowG s (rG s x)).set (bG s x).toNat (vi s.ints (ar2 x))) } := by rw [inst_do hc]; unfold doG; simp [e, cp]
                    refine y6 (GStep.bagOut (i := w) (o := .grow 1 2 (cI (rowG s (rG s x)))) (X' := X) (hX1) .t6)<|ze<|zq (fun j => Nat.beq j 18) (by kernel_rfl) Z (zr (.l (.r (.r (.l (.l (.r (.rest _))))))))<|zTk 0 Z (zMp Z)<|zTk 1 Z (zy Z)<|zTk 2 Z (zc j9 Z Y0 (by decide) Z Z)<|zTk 3 Z (zi (c := .own _ _) Yf Z ⟨_, .head⟩ Z)<|zTk 4 Z (zMi Z)<|zTk 5 Z (yj (j := (rG s x).toNat) Z7 Za Z Z (w3 h1).symm ⟨_, .t2⟩ (owns_len hids) (by omega))<|zTk 6 Z (Gv.load1G (c := _) Zn Z ⟨_, .t2⟩ (owns_drop hw0 (row_get h1 h2)))<|zTk 7 Z (zMi Z)<|zTk 8 Z (zMp Z)<|zTk 9 Z (zy Z)<|zTk 10 Z (zc j9 Z Za (by decide) Z Z)<|zTk 11 Z (zi (c := .own _ _) Zn Z ⟨_, .head⟩ Z)<|zTk 12 Z (zMf Z)<|zTk 13 Z (zIM 2 j4 j5 Z Z Z (get0 hal))<|zTk 14 Z (zLi jd Z)<|zTk 15 Z (yj (j := (ar2 x).toNat) jj Z3 Z Z (w3 r2).symm ⟨_, .t1⟩ ((cI_len _).trans hl1) (by omega))<|zTk 16 Z (qh (j := (ar2 x).toNat) Y7 Z ⟨_, .t1⟩ (vi_get (by omega) r2))<|zOn 17 Z<|z8 (yj (j := (bG s x).toNat) jj Z3 Z Z (w3 h3).symm ⟨_, .head⟩ (cI_len _) (by omega))<|z6<|yc<|yd (i := 18) Z (by kernel_rfl) (by kernel_rfl)<|q6 (j := (bG s x).toNat) Z3 Z Z .t3 (by first | omega | (simp; omega))<|z6<|yg (by kernel_rfl)<|yz (GStep.bagIn (X' := bagA ids (s.arrays.set (rG s x).toNat ((rowG s (rG s x)).set (bG s x).toNat (vi s.ints (ar2 x))))) .t3 ((by have := hX2 w ((rowG s (rG s x)).set (bG s x).toNat (vi s.ints (ar2 x))); rw [set_id hw0] at this; exact this)) .t6)<|yz (zm (zp .t2))<|yz (zm (zp .t4))<|yz (zm (zp .t4))<|yz (zm (zp .t4))<|yz (zm (zp .t4))<|yt ?_
                    exact ⟨jo, jt, ids, by rw [hI]; simpa using hids, rfl, by rw [hI]; unfold wO wR wCe; rw [owns_set (row_get h1 h2) (List.length_set ..)]; simp⟩
                  ·have n14 : ¬ x.op = 14 := fun e => c14 ((word_op hop 14 (by decide) rfl).2 e)
                   refine zSr<|z8 (yw Z Z)<|zVzAb Z<|z6<|zk Z (fun c15=>?_) (fun c15=>?_)
                   ·have e : x.op = 15 := (word_op hop 15 (by decide) rfl).1 c15
                    obtain ⟨d1, d0⟩ := hx.made (by rw [e]; decide)
                    obtain ⟨rfl, _, _⟩ : a = aG s x ∧ p = pG s x ∧ r = rG s x := by have := hu (by rw [hargc, e]; decide); simpa using this
                    refine zh<|zb<|yn (γ := Bool) [0, 7, 12] (fun z => [(333, .bool z)]) (fun z => wO f iw ja jb jc jo jt ids s) (fun z => z = decide (aG s x < 0 ∨ 64 < aG s x)) ?_ (fun _ _ h => h) ?_
                    ·refine zRg<|zVzMi Z<|zVGvlss Z Z<|zVzMb Z<|zo (s := 336) Z (fun cn=>?_) (fun cn=>?_)
                     ·have cn2 : aG s x < 0 := by simpa using cn
                      refine z7 Z Z cn<|z7 Z Z cn<|zVzPt Z cn Z<|zVzAb Z<|z6 ?_
                      exact ⟨_, zR3, zR1, zLe, by rw [qy (.inl cn2)]⟩
                     ·have cn2 : ¬ aG s x < 0 := by simpa using cn
                      refine za Z Z cn<|zVzMi Z<|za Z Z cn<|z8 (yy Z Z)<|zVzPf Z cn Z<|zVzAb Z<|z6 ?_
                      exact ⟨_, zR3, zR1, zLe, by rw [decide_eq_decide]; exact ⟨fun h => .inr h, fun h => h.resolve_left cn2⟩⟩
                    ·rintro z hz4
                     refine zz Z (fun cz4=>?_) (fun cz4=>?_)
                     ·have cz4 : aG s x < 0 ∨ 64 < aG s x := of_decide_eq_true (hz4.symm.trans cz4)
                      have hI : instG s x = stopG s 2 := by rw [inst_do hc]; unfold doG; simp [e, cz4]
                      refine zRg<|zVzMp Z<|yh Z (zr (.l (.l (.l (.l (.l (.l (.l (.rest _))))))))) (wend_spec f iw ja jb jc jo jt ids s 2) ?_
                      rintro r341 O341 ⟨rfl, rfl⟩
                      refine z6<|yt ?_
                      exact ⟨jo, jt, ids, by rw [hI]; exact hids, rfl, by rw [hI]; rfl⟩
                     ·have cz4 : ¬ (aG s x < 0 ∨ 64 < aG s x) := of_decide_eq_false (hz4.symm.trans cz4)
                      refine zSr<|zVzMp Z<|zVGvnilCheckO Z<|z8 (zc j9 Z Y0 (by decide) Z Z)<|z8 (zi (c := .own _ _) Yf Z ⟨_, .head⟩ Z)<|z8 (qj Z7 Z)<|z8 (qc Z Z)<|zVzAb Z<|z6<|zk Z (fun c32=>?_) (fun c32=>?_)
                      ·have c32 : 32 ≤ s.arrays.length := by omega
                       have hI : instG s x = stopG s 3 := by rw [inst_do hc]; unfold doG; rw [e, if_neg (by decide), if_neg (by decide), if_neg (by decide), if_neg (by decide), if_neg (by decide), if_neg (by decide), if_neg (by decide), if_neg (by decide), if_neg (by decide), if_neg (by decide), if_neg (by decide), if_neg (by decide), if_neg (by decide), if_neg (by decide), if_neg (by decide), if_pos rfl, if_neg cz4, if_pos c32]
                       refine zRg<|zVzMp Z<|yh Z (zr (.l (.l (.l (.l (.l (.l (.l (.rest _))))))))) (wend_spec f iw ja jb jc jo jt ids s 3) ?_
                       rintro r350 O350 ⟨rfl, rfl⟩
                       refine z6<|yt ?_
                       exact ⟨jo, jt, ids, by rw [hI]; exact hids, rfl, by rw [hI]; rfl⟩
                      ·have c32 : ¬ 32 ≤ s.arrays.length := by omega
                       have hI : instG s x = stA { s with arrays := s.arrays ++ [List.replicate (aG s x).toNat 0] } x.dst s.arrays.length := by rw [inst_do hc]; unfold doG; rw [e, if_neg (by decide), if_neg (by decide), if_neg (by decide), if_neg (by decide), if_neg (by decide), if_neg (by decide), if_neg (by decide), if_neg (by decide), if_neg (by decide), if_neg (by decide), if_neg (by decide), if_neg (by decide), if_neg (by decide), if_neg (by decide), if_neg (by decide), if_pos rfl, if_neg cz4, if_neg c32]
                       refine zb<|zq (fun j => Nat.beq j 11) (by kernel_rfl) Z (zr (.r (.rest _)))<|zTk 0 Z (zMp Z)<|zTk 1 Z (zMp Z)<|zTk 2 Z (zy Z)<|zTk 3 Z (zc j9 Z Y0 (by decide) Z Z)<|zTk 4 Z (zi (c := .own _ _) Yf Z ⟨_, .head⟩ Z)<|zTk 5 Z (zMi Z)<|zOn 6 Z<|qf (m := (aG s x).toNat) jj Yg Z Z Z Z Z (by omega) (by omega) (by show (8 : Int) * _ ≤ _; omega) (by omega)<|fun i316 => z6<|zOn 7 Z<|zn (rows := [[_]]) ps38_1 Z Z Z Z Z<|z6<|zOn 8 Z<|y5 (k := 1) Z7 type47 Z Z Z Z Z (fun _ => .t4) (by rw [owns_len hids]; omega) (by decide) Z (by show (_ + 1) * 24 ≤ _; omega) (by show _ + 1 ≤ _; omega)<|fun i318 => z6<|yk (i := 9) Z (by kernel_rfl) (by kernel_rfl) (by kernel_rfl) (by kernel_rfl) (zy Z)<|zTk 10 Z (zc j9 Z Y0 (by decide) Z Z)<|yc<|yd (i := 11) Z (by kernel_rfl) (by kernel_rfl)<|y1 (l := [_]) (new := [_, _, _, _, _, _, _, _, _, _, _, _, _, _, _, _, _, _, _, _, _, _, _]) Y0 Z Z Z Z Z Z .head Z Z<|z6<|yg (by kernel_rfl)<|y6 (GStep.bagIn (X' := bagA (ids ++ [i316]) (s.arrays ++ [List.replicate (aG s x).toNat 0])) .t1 (bag_push i316 _ hids) .t6)<|zq (fun j => Nat.beq j 12) (by kernel_rfl) Z (zr (.r (.rest _)))<|zTk 0 Z (zMp Z)<|zTk 1 Z (zy Z)<|zTk 2 Z (zc j9 Z je (by decide) Z Z)<|zTk 3 Z (zi (c := .own _ _) jn Z ⟨_, .head⟩ Z)<|zTk 4 Z (zMi Z)<|zTk 5 Z (zMp Z)<|zTk 6 Z (zy Z)<|zTk 7 Z (zc j9 Z Y0 (by decide) Z Z)<|zTk 8 Z (zi (c := .own _ _) Yf Z ⟨_, .head⟩ Z)<|zTk 9 Z (qj Z7 Z)<|zTk 10 Z (Gv.sub Z Z (by unfold I64; simp only [List.length_cons, List.length_nil]; omega))<|zOn 11 Z<|z8 (yj (j := x.dst.toNat) j4 j5 Z Z (w3 d0).symm ⟨_, .t2⟩ ((cI_len _).trans hl3) (by omega)) ?_
                       refine z6<|yc<|yd (i := 12) Z (by kernel_rfl) (by kernel_rfl)<|q6 (j := x.dst.toNat) j5 Z Z .t3 (by first | omega | (simp; omega))<|z6<|yg (by kernel_rfl)<|yz (zm (zp .t5))<|yz (zm (zp .t5))<|yz (zm (zp .t5))<|yz (zm (zp .t5))<|yz (zm (zp .t5))<|yz (zm (zp .t5))<|yt ?_
                       exact ⟨i318, jt, ids ++ [i316], by rw [hI]; simp [stA, hids], rfl, by rw [hI]; exact wO_new f iw ja jb jc i318 jt hids i316 (aG s x).toNat x.dst _ (by simp only [List.length_cons, List.length_nil]; omega)⟩
                   ·have n15 : ¬ x.op = 15 := fun e => c15 ((word_op hop 15 (by decide) rfl).2 e)
                    refine zSr<|z8 (yw Z Z)<|zVzAb Z<|z6<|zk Z (fun c16=>?_) (fun c16=>?_)
                    ·have e : x.op = 16 := (word_op hop 16 (by decide) rfl).1 c16
                     obtain ⟨d1, d0⟩ := hx.made (by rw [e]; decide)
                     have hI : instG s x = stA s x.dst (-1) := by rw [inst_do hc]; unfold doG; simp [e]
                     refine zRg<|zVzMp Z<|zVGvnilCheckO Z<|z8 (zc j9 Z je (by decide) Z Z)<|z8 (zi (c := .own _ _) jn Z ⟨_, .head⟩ Z)<|zVzMi Z<|z8 (yj (j := x.dst.toNat) j4 j5 Z Z (w3 d0).symm ⟨_, .t3⟩ ((cI_len _).trans hl3) (by omega))<|q6 (j := x.dst.toNat) j5 Z Z .t3 (by first | omega | (simp; omega))<|z6<|yt ?_
                     exact ⟨jo, jt, ids, by rw [hI]; exact hids, rfl, by rw [hI]; rfl⟩
                    ·have n16 : ¬ x.op = 16 := fun e => c16 ((word_op hop 16 (by decide) rfl).2 e)
                     refine zSr<|z8 (yw Z Z)<|zVzAb Z<|z6<|zk Z (fun c17=>?_) (fun c17=>?_)
                     ·have e : x.op = 17 := (word_op hop 17 (by decide) rfl).1 c17
                      obtain ⟨rfl, _, _⟩ : a = aG s x ∧ p = pG s x ∧ r = rG s x := by have := hu (by rw [hargc, e]; decide); simpa using this
                      refine zb<|zSr<|zVzMp Z<|zVGvnilCheckO Z<|z8 (zc j9 Z Z9 (by decide) Z Z)<|z8 (zc jr Z Za (by decide) Z Z)<|z8 (zi (c := .own _ _) Zn Z ⟨_, .head⟩ Z)<|z8 (qj jj Z)<|z8 (qc Z Z)<|z6<|zk Z (fun ct=>?_) (fun ct=>?_)
                      ·have ct : 4096 ≤ s.trace.length := by omega
                       have hI : instG s x = stopG s 3 := by rw [inst_do hc]; unfold doG; simp [e, ct]
                       refine zSr<|zVzMp Z<|yh Z (zr (.l (.l (.l (.l (.l (.l (.l (.rest _))))))))) (wend_spec f iw ja jb jc jo jt ids s 3) ?_
                       rintro r369 O369 ⟨rfl, rfl⟩
                       refine z6<|zf<|yt ?_
                       exact ⟨jo, jt, ids, by rw [hI]; exact hids, rfl, by rw [hI]; rfl⟩
                      ·have ct : ¬ 4096 ≤ s.trace.length := by omega
                       have hI : instG s x = { s with trace := s.trace ++ [aG s x] } := by rw [inst_do hc]; unfold doG; simp [e, ct]
                       refine ze<|zRg<|zVzMp Z<|zVzMp Z<|zVGvnilCheckO Z<|z8 (zc j9 Z Z9 (by decide) Z Z)<|z8 (zc jr Z Za (by decide) Z Z)<|z8 (zi (c := .own _ _) Zn Z ⟨_, .head⟩ Z)<|zVzMi Z<|zn (rows := [[_]]) ps47_1 Z Z Z Z Z<|y5 (k := 1) jj Yg Z Z Z Z Z (fun _ => .t5) (by rw [cI_len]; omega) (by decide) Z (by show (_ + 1) * 8 ≤ _; omega) (by show _ + 1 ≤ _; omega)<|fun i378 => zVGvnilCheckO Z<|z8 (zc j9 Z Z9 (by decide) Z Z)<|z8 (zc jr Z Za (by decide) Z Z)<|y1 (l := [_]) (new := [_, _, _, _, _, _, _, _, _, _, _, _, _, _, _, _, _, _, _, _, _, _, _]) Za Z Z Z Z Z Z .head Z Z<|z6<|yt ?_
                       exact ⟨jo, i378, ids, by rw [hI]; exact hids, rfl, by rw [hI]; exact wO_out f iw ja jb jc jo i378 _⟩
                     ·exfalso
                      have n17 : ¬ x.op = 17 := fun e => c17 ((word_op hop 17 (by decide) rfl).2 e)
                      omega
end Go.Proofs.YtpojdepccecpgaaGreatDoor
