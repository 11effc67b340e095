/- An instruction of the document's machine. Of programs as they are run. -/
import Derived.Test.YtiojekbkamegdaaGreatDoorZp
set_option linter.unusedVariables false
set_option linter.unusedSimpArgs false
set_option linter.unusedSectionVars false
namespace Go.Proofs.YtiojekbkamegdaaGreatDoor
open Go.Proofs.Tryz
open Go.Proofs Go.Lib Go.Shelf Go.RowKit
theorem ps35_1 : PlacesS prog 35 42 1 1 [.raw (.slice none 0 0)] := ⟨_, underlying35, sizeOf42, zeroValue42, by decide, by decide, by kernel_rfl⟩
theorem ps42_1 : PlacesS prog 42 2 1 1 [.int .i64 0] := ⟨_, underlying42, sizeOf2, zeroValue2, by decide, by decide, by kernel_rfl⟩
variable {E : World}
set_option maxRecDepth 20000
theorem inst_do {s : GS} {x : PInst} (h : ¬ (18 ≤ x.op ∧ x.op ≤ 24)) : instG s x = doG s x := by unfold instG; rw [if_neg h]
theorem gb_get {l : List Bool} {v : Int} (h1 : v < l.length) (_ : 0 ≤ v) : l[v.toNat]? = some (gb l v) := by
 unfold gb; rw [qq (by omega)]; rfl
theorem set_id {α : Type} : ∀ {l : List α} {j : Nat} {a : α}, l[j]? = some a → l.set j a = l
 | [], _, _, h => by simp at h
 | _ :: _, 0, _, h => by simp at h; subst h; rfl
 | _ :: l, j + 1, a, h => by rw [List.set_cons_succ, set_id (l := l) (by simpa using h)]
theorem owns_set : ∀ {ids : List Nat} {rs : List (List Int)} {j : Nat} {r r' : List Int}, rs[j]? = some r → r'.length = r.length → ownsA ids (rs.set j r') = ownsA ids rs
 | [], _, _, _, _, _, _ => rfl
 | _ :: _, [], _, _, _, h, _ => by simp at h
 | i :: ids, r0 :: rs, 0, r, r', h, hl => by
  simp at h
  subst h
  show AV.own i r'.length :: _ = AV.own i r0.length :: _
  rw [hl]
 | i :: ids, r0 :: rs, j + 1, r, r', h, hl => by
  show AV.own i r0.length :: ownsA ids (rs.set j r') = AV.own i r0.length :: ownsA ids rs
  rw [owns_set (by simpa using h) hl]
theorem owns_push {ids : List Nat} {rs : List (List Int)} (i : Nat) (r : List Int) (h : ids.length = rs.length) : ownsA ids rs ++ [AV.own i r.length] = ownsA (ids ++ [i]) (rs ++ [r]) := by
 unfold ownsA; rw [List.zipWith_append h]; rfl
theorem bag_push {ids : List Nat} {rs : List (List Int)} (i : Nat) (r : List Int) (h : ids.length = rs.length) : (rowA i r :: bagA ids rs).Perm (bagA (ids ++ [i]) (rs ++ [r])) := by
 unfold bagA; rw [List.zipWith_append h]; exact List.perm_append_comm (l₁ := [_])
theorem wO_new (f : PFunc) (iw ja jb jc jo jt : Nat) {ids : List Nat} {s : GS} (h : ids.length = s.arrays.length) (i m : Nat) (d v : Int) (hv : v = s.arrays.length) : (iw, AObj.cells 100 (encF f ++ [.own ja f.vars.length, .own jb f.vars.length, .own jc f.vars.length, .own jo (s.arrays.length + 1), .int .i64 s.blk, .int .i64 s.pc, .int .i64 s.en, .int .i64 s.val, .int .i64 s.tr, .own jt s.trace.length, .int .i64 s.st, .int .i64 (s.ck 0), .int .i64 (s.ck 1), .int .i64 (s.ck 2), .int .i64 (s.ck 3), .int .i64 (s.ck 4), .int .i64 (s.ck 5), .int .i64 (s.ck 6), .int .i64 (s.ck 7), .bool s.ended])) :: (ja, .grow 1 2 (cI s.ints)) :: (jb, .grow 1 4 (cB s.bools)) :: (jc, .grow 1 3 (cI (s.arrs.set d.toNat v))) :: (jo, .grow 1 42 (ownsA ids s.arrays ++ [.own i m])) :: (jt, .grow 1 2 (cI s.trace)) :: [(0, bag (bagA (ids ++ [i]) (s.arrays ++ [List.replicate m 0])))] = wO f iw ja jb jc jo jt (ids ++ [i]) (stA { s with arrays := s.arrays ++ [List.replicate m 0] } d s.arrays.length) := by
 subst hv
 unfold wO wR wCe stA
 rw [← owns_push i (List.replicate m 0) h]
 simp only [qw, List.length_singleton, List.length_replicate]
theorem wO_out (f : PFunc) (iw ja jb jc jo jt : Nat) {ids : List Nat} {s : GS} (a : Int) : (iw, AObj.cells 100 (encF f ++ [.own ja f.vars.length, .own jb f.vars.length, .own jc f.vars.length, .own jo s.arrays.length, .int .i64 s.blk, .int .i64 s.pc, .int .i64 s.en, .int .i64 s.val, .int .i64 s.tr, .own jt (s.trace.length + 1), .int .i64 s.st, .int .i64 (s.ck 0), .int .i64 (s.ck 1), .int .i64 (s.ck 2), .int .i64 (s.ck 3), .int .i64 (s.ck 4), .int .i64 (s.ck 5), .int .i64 (s.ck 6), .int .i64 (s.ck 7), .bool s.ended])) :: (ja, .grow 1 2 (cI s.ints)) :: (jb, .grow 1 4 (cB s.bools)) :: (jc, .grow 1 3 (cI s.arrs)) :: (jo, .grow 1 42 (ownsA ids s.arrays)) :: (jt, .grow 1 2 (cI s.trace ++ [.int .i64 a])) :: [(0, bag (bagA ids s.arrays))] = wO f iw ja jb jc jo jt ids { s with trace := s.trace ++ [a] } := by
 unfold wO wR wCe
 rw [show cI s.trace ++ [AV.int .i64 a] = cI (s.trace ++ [a]) from cI_app s.trace [a]]
 simp only [qw, List.length_singleton]
set_option maxHeartbeats 16000000 in
theorem winst_spec (f : PFunc) (iw ja jb jc jo jt : Nat) (ids : List Nat) (s : GS) (x : PInst) (hids : ids.length = s.arrays.length) (hg : GInv f s) (hx : InstF f x) (hv : f.vars.length ≤ 1000) (hck : ∀ i, s.ck i ≤ 1000000000) : ACall prog E 104 [.po iw 0, .agg (encInst x)] (wO f iw ja jb jc jo jt ids s) (fun y O => ∃ jo' jt' ids', ids'.length = (instG s x).arrays.length ∧ y = .tup [] ∧ O = wO f iw ja jb jc jo' jt' ids' (instG s x)) := by
 have hop := hx.op
 have hl1 := hg.li
 have hl2 := hg.lb
 have hl3 := hg.la
 have hargc := hx.argc
 obtain ⟨t, ht⟩ : ∃ t, (if 18 ≤ x.op ∧ x.op ≤ 24 then x.op - 17 else 0) = t := ⟨_, rfl⟩
 have hchk := chkNum_spec (E := E) x.op hop
 rw [ht] at hchk
 refine zo func104 rfl (by decide) rfl<|zSr<|y9 (cs := _) rfl rfl rfl<|z6<|zd<|zu (fun j => false) (by kernel_rfl) rfl (zm (.rest _))<|zTk 1 rfl (zFF underlying61 rfl sizeOf59 rfl rfl)<|zTk 2 rfl (zLi isAgg59 rfl)<|zOn 0 rfl<|zf (rows_spec) rfl<|z6<|zTk 3 rfl (zIM x.op.toNat underlying171 sizeOf170 rfl rfl (by omega) (kRow_get hop))<|zTk 4 rfl (zFF underlying170 rfl sizeOf9 rfl rfl)<|zTk 5 rfl (qa (c := .str _) isAgg9 rfl)<|zTk 6 rfl (q7 (v := .str _) rfl)<|zDn<|zd<|zSr<|z2 (zFF underlying61 rfl sizeOf59 rfl rfl)<|z2 (zLi isAgg59 rfl)<|zf (hchk) rfl<|z2 (zAi rfl)<|z6<|zSr<|z2 (zMi rfl)<|z2 (q4 rfl rfl)<|z6<|zr rfl (fun c=>?_) (fun c=>?_)
 ·have hc : 18 ≤ x.op ∧ x.op ≤ 24 := by
   refine Classical.byContradiction fun hn=>?_
   rw [if_neg hn] at ht; omega
  rw [if_pos hc] at ht
  refine zd<|yp (γ := Nat) [0, 3, 4, 5] (fun g => []) (fun g => wO f iw ja jb jc jo jt ids (bumpG s g)) (fun g => (g : Int) = t) ?_ (fun _ _ h => h) ?_
  ·have ht7 : t = 1 ∨ t = 2 ∨ t = 3 ∨ t = 4 ∨ t = 5 ∨ t = 6 ∨ t = 7 := by omega
   rcases ht7 with h7 | h7 | h7 | h7 | h7 | h7 | h7
   ·have hb := hck 1
    refine zu (fun j => Nat.beq j 12) (by kernel_rfl) rfl (zm (.rest _))<|zTk 0 rfl (zMp rfl)<|zTk 1 rfl (zMi rfl)<|zTk 2 rfl (zn rfl)<|zTk 3 rfl (ze underlying100 rfl sizeOf45 (by decide) rfl rfl)<|zTk 4 rfl (ze underlying45 rfl sizeOf43 (by decide) rfl rfl)<|zTk 5 rfl (qb (j := 1) underlying43 sizeOf3 rfl rfl h7 (by decide) rfl)<|yr (i := 8) rfl (by kernel_rfl) (by kernel_rfl) (by kernel_rfl) (by kernel_rfl) (zn rfl)<|yr (i := 9) rfl (by kernel_rfl) (by kernel_rfl) (by kernel_rfl) (by kernel_rfl) (ze underlying100 rfl sizeOf45 (by decide) rfl rfl)<|yr (i := 10) rfl (by kernel_rfl) (by kernel_rfl) (by kernel_rfl) (by kernel_rfl) (ze underlying45 rfl sizeOf43 (by decide) rfl rfl)<|zOn 6 rfl<|z2 (zl (c := .int _ _) isAgg3 rfl ⟨_, .head⟩ rfl)<|z6<|zTk 7 rfl (zAd rfl rfl)<|zTk 11 rfl (qb (j := 1) underlying43 sizeOf3 rfl rfl h7 (by decide) rfl)<|y8<|ya (i := 12) rfl (by kernel_rfl) (by kernel_rfl)<|yn (l := [_]) (new := [_, _, _, _, _, _, _, _, _, _, _, _, _, _, _, _, _, _, _, _, _, _, _]) sizeOf3 rfl rfl rfl rfl rfl rfl .head rfl rfl<|z6<|yd (by kernel_rfl) ?_
    exact ⟨1, zR4, trivial, zLe, by rw [h7]; rfl⟩
   ·have hb := hck 2
    refine zu (fun j => Nat.beq j 12) (by kernel_rfl) rfl (zm (.rest _))<|zTk 0 rfl (zMp rfl)<|zTk 1 rfl (zMi rfl)<|zTk 2 rfl (zn rfl)<|zTk 3 rfl (ze underlying100 rfl sizeOf45 (by decide) rfl rfl)<|zTk 4 rfl (ze underlying45 rfl sizeOf43 (by decide) rfl rfl)<|zTk 5 rfl (qb (j := 2) underlying43 sizeOf3 rfl rfl h7 (by decide) rfl)<|yr (i := 8) rfl (by kernel_rfl) (by kernel_rfl) (by kernel_rfl) (by kernel_rfl) (zn rfl)<|yr (i := 9) rfl (by kernel_rfl) (by kernel_rfl) (by kernel_rfl) (by kernel_rfl) (ze underlying100 rfl sizeOf45 (by decide) rfl rfl)<|yr (i := 10) rfl (by kernel_rfl) (by kernel_rfl) (by kernel_rfl) (by kernel_rfl) (ze underlying45 rfl sizeOf43 (by decide) rfl rfl)<|zOn 6 rfl<|z2 (zl (c := .int _ _) isAgg3 rfl ⟨_, .head⟩ rfl)<|z6<|zTk 7 rfl (zAd rfl rfl)<|zTk 11 rfl (qb (j := 2) underlying43 sizeOf3 rfl rfl h7 (by decide) rfl)<|y8<|ya (i := 12) rfl (by kernel_rfl) (by kernel_rfl)<|yn (l := [_]) (new := [_, _, _, _, _, _, _, _, _, _, _, _, _, _, _, _, _, _, _, _, _, _, _]) sizeOf3 rfl rfl rfl rfl rfl rfl .head rfl rfl<|z6<|yd (by kernel_rfl) ?_
    exact ⟨2, zR4, trivial, zLe, by rw [h7]; rfl⟩
   ·have hb := hck 3
    refine zu (fun j => Nat.beq j 12) (by kernel_rfl) rfl (zm (.rest _))<|zTk 0 rfl (zMp rfl)<|zTk 1 rfl (zMi rfl)<|zTk 2 rfl (zn rfl)<|zTk 3 rfl (ze underlying100 rfl sizeOf45 (by decide) rfl rfl)<|zTk 4 rfl (ze underlying45 rfl sizeOf43 (by decide) rfl rfl)<|zTk 5 rfl (qb (j := 3) underlying43 sizeOf3 rfl rfl h7 (by decide) rfl)<|yr (i := 8) rfl (by kernel_rfl) (by kernel_rfl) (by kernel_rfl) (by kernel_rfl) (zn rfl)<|yr (i := 9) rfl (by kernel_rfl) (by kernel_rfl) (by kernel_rfl) (by kernel_rfl) (ze underlying100 rfl sizeOf45 (by decide) rfl rfl)<|yr (i := 10) rfl (by kernel_rfl) (by kernel_rfl) (by kernel_rfl) (by kernel_rfl) (ze underlying45 rfl sizeOf43 (by decide) rfl rfl)<|zOn 6 rfl<|z2 (zl (c := .int _ _) isAgg3 rfl ⟨_, .head⟩ rfl)<|z6<|zTk 7 rfl (zAd rfl rfl)<|zTk 11 rfl (qb (j := 3) underlying43 sizeOf3 rfl rfl h7 (by decide) rfl)<|y8<|ya (i := 12) rfl (by kernel_rfl) (by kernel_rfl)<|yn (l := [_]) (new := [_, _, _, _, _, _, _, _, _, _, _, _, _, _, _, _, _, _, _, _, _, _, _]) sizeOf3 rfl rfl rfl rfl rfl rfl .head rfl rfl<|z6<|yd (by kernel_rfl) ?_
    exact ⟨3, zR4, trivial, zLe, by rw [h7]; rfl⟩
   ·have hb := hck 4
    refine zu (fun j => Nat.beq j 12) (by kernel_rfl) rfl (zm (.rest _))<|zTk 0 rfl (zMp rfl)<|zTk 1 rfl (zMi rfl)<|zTk 2 rfl (zn rfl)<|zTk 3 rfl (ze underlying100 rfl sizeOf45 (by decide) rfl rfl)<|zTk 4 rfl (ze underlying45 rfl sizeOf43 (by decide) rfl rfl)<|zTk 5 rfl (qb (j := 4) underlying43 sizeOf3 rfl rfl h7 (by decide) rfl)<|yr (i := 8) rfl (by kernel_rfl) (by kernel_rfl) (by kernel_rfl) (by kernel_rfl) (zn rfl)<|yr (i := 9) rfl (by kernel_rfl) (by kernel_rfl) (by kernel_rfl) (by kernel_rfl) (ze underlying100 rfl sizeOf45 (by decide) rfl rfl)<|yr (i := 10) rfl (by kernel_rfl) (by kernel_rfl) (by kernel_rfl) (by kernel_rfl) (ze underlying45 rfl sizeOf43 (by decide) rfl rfl)<|zOn 6 rfl<|z2 (zl (c := .int _ _) isAgg3 rfl ⟨_, .head⟩ rfl)<|z6<|zTk 7 rfl (zAd rfl rfl)<|zTk 11 rfl (qb (j := 4) underlying43 sizeOf3 rfl rfl h7 (by decide) rfl)<|y8<|ya (i := 12) rfl (by kernel_rfl) (by kernel_rfl)<|yn (l := [_]) (new := [_, _, _, _, _, _, _, _, _, _, _, _, _, _, _, _, _, _, _, _, _, _, _]) sizeOf3 rfl rfl rfl rfl rfl rfl .head rfl rfl<|z6<|yd (by kernel_rfl) ?_
    exact ⟨4, zR4, trivial, zLe, by rw [h7]; rfl⟩
   ·have hb := hck 5
    refine zu (fun j => Nat.beq j 12) (by kernel_rfl) rfl (zm (.rest _))<|zTk 0 rfl (zMp rfl)<|zTk 1 rfl (zMi rfl)<|zTk 2 rfl (zn rfl)<|zTk 3 rfl (ze underlying100 rfl sizeOf45 (by decide) rfl rfl)<|zTk 4 rfl (ze underlying45 rfl sizeOf43 (by decide) rfl rfl)<|zTk 5 rfl (qb (j := 5) underlying43 sizeOf3 rfl rfl h7 (by decide) rfl)<|yr (i := 8) rfl (by kernel_rfl) (by kernel_rfl) (by kernel_rfl) (by kernel_rfl) (zn rfl)<|yr (i := 9) rfl (by kernel_rfl) (by kernel_rfl) (by kernel_rfl) (by kernel_rfl) (ze underlying100 rfl sizeOf45 (by decide) rfl rfl)<|yr (i := 10) rfl (by kernel_rfl) (by kernel_rfl) (by kernel_rfl) (by kernel_rfl) (ze underlying45 rfl sizeOf43 (by decide) rfl rfl)<|zOn 6 rfl<|z2 (zl (c := .int _ _) isAgg3 rfl ⟨_, .head⟩ rfl)<|z6<|zTk 7 rfl (zAd rfl rfl)<|zTk 11 rfl (qb (j := 5) underlying43 sizeOf3 rfl rfl h7 (by decide) rfl)<|y8<|ya (i := 12) rfl (by kernel_rfl) (by kernel_rfl)<|yn (l := [_]) (new := [_, _, _, _, _, _, _, _, _, _, _, _, _, _, _, _, _, _, _, _, _, _, _]) sizeOf3 rfl rfl rfl rfl rfl rfl .head rfl rfl<|z6<|yd (by kernel_rfl) ?_
    exact ⟨5, zR4, trivial, zLe, by rw [h7]; rfl⟩
   ·have hb := hck 6
    refine zu (fun j => Nat.beq j 12) (by kernel_rfl) rfl (zm (.rest _))<|zTk 0 rfl (zMp rfl)<|zTk 1 rfl (zMi rfl)<|zTk 2 rfl (zn rfl)<|zTk 3 rfl (ze underlying100 rfl sizeOf45 (by decide) rfl rfl)<|zTk 4 rfl (ze underlying45 rfl sizeOf43 (by decide) rfl rfl)<|zTk 5 rfl (qb (j := 6) underlying43 sizeOf3 rfl rfl h7 (by decide) rfl)<|yr (i := 8) rfl (by kernel_rfl) (by kernel_rfl) (by kernel_rfl) (by kernel_rfl) (zn rfl)<|yr (i := 9) rfl (by kernel_rfl) (by kernel_rfl) (by kernel_rfl) (by kernel_rfl) (ze underlying100 rfl sizeOf45 (by decide) rfl rfl)<|yr (i := 10) rfl (by kernel_rfl) (by kernel_rfl) (by kernel_rfl) (by kernel_rfl) (ze underlying45 rfl sizeOf43 (by decide) rfl rfl)<|zOn 6 rfl<|z2 (zl (c := .int _ _) isAgg3 rfl ⟨_, .head⟩ rfl)<|z6<|zTk 7 rfl (zAd rfl rfl)<|zTk 11 rfl (qb (j := 6) underlying43 sizeOf3 rfl rfl h7 (by decide) rfl)<|y8<|ya (i := 12) rfl (by kernel_rfl) (by kernel_rfl)<|yn (l := [_]) (new := [_, _, _, _, _, _, _, _, _, _, _, _, _, _, _, _, _, _, _, _, _, _, _]) sizeOf3 rfl rfl rfl rfl rfl rfl .head rfl rfl<|z6<|yd (by kernel_rfl) ?_
    exact ⟨6, zR4, trivial, zLe, by rw [h7]; rfl⟩
   ·have hb := hck 7
    refine zu (fun j => Nat.beq j 12) (by kernel_rfl) rfl (zm (.rest _))<|zTk 0 rfl (zMp rfl)<|zTk 1 rfl (zMi rfl)<|zTk 2 rfl (zn rfl)<|zTk 3 rfl (ze underlying100 rfl sizeOf45 (by decide) rfl rfl)<|zTk 4 rfl (ze underlying45 rfl sizeOf43 (by decide) rfl rfl)<|zTk 5 rfl (qb (j := 7) underlying43 sizeOf3 rfl rfl h7 (by decide) rfl)<|yr (i := 8) rfl (by kernel_rfl) (by kernel_rfl) (by kernel_rfl) (by kernel_rfl) (zn rfl)<|yr (i := 9) rfl (by kernel_rfl) (by kernel_rfl) (by kernel_rfl) (by kernel_rfl) (ze underlying100 rfl sizeOf45 (by decide) rfl rfl)<|yr (i := 10) rfl (by kernel_rfl) (by kernel_rfl) (by kernel_rfl) (by kernel_rfl) (ze underlying45 rfl sizeOf43 (by decide) rfl rfl)<|zOn 6 rfl<|z2 (zl (c := .int _ _) isAgg3 rfl ⟨_, .head⟩ rfl)<|z6<|zTk 7 rfl (zAd rfl rfl)<|zTk 11 rfl (qb (j := 7) underlying43 sizeOf3 rfl rfl h7 (by decide) rfl)<|y8<|ya (i := 12) rfl (by kernel_rfl) (by kernel_rfl)<|yn (l := [_]) (new := [_, _, _, _, _, _, _, _, _, _, _, _, _, _, _, _, _, _, _, _, _, _, _]) sizeOf3 rfl rfl rfl rfl rfl rfl .head rfl rfl<|z6<|yd (by kernel_rfl) ?_
    exact ⟨7, zR4, trivial, zLe, by rw [h7]; rfl⟩
  ·rintro g hgt
   have hgn : (x.op - 17).toNat = g := by omega
   have hal : 0 < x.args.length := by
    obtain ⟨j, hj⟩ : ∃ j : Nat, x.op = (j : Int) := ⟨x.op.toNat, by omega⟩
    rw [hargc, hj, Int.toNat_natCast]
    have : j = 18 ∨ j = 19 ∨ j = 20 ∨ j = 21 ∨ j = 22 ∨ j = 23 ∨ j = 24 := by omega
    rcases this with h | h | h | h | h | h | h <;> (rw [h]; decide)
   have ho : arg_ok f x.op x.args := ⟨hc.1, hc.2, hal, fun v hv => has_lt (hx.args v hv)⟩
   refine zd<|zSr<|z2 (zMp rfl)<|z2 (yq (v := .str _) rfl)<|z2 (zFF underlying61 rfl sizeOf23 rfl rfl)<|z2 (zLf isAgg23 rfl)<|y1 rfl (zm (.l (.l (.l (.l (.l (.l (.l (.rest _))))))))) (wpasses_spec f iw ja jb jc jo jt ids (bumpG s g) x.op x.args hids (hg.bump g) ho) ?_
   rintro r42 O42 ⟨rfl, rfl⟩
   refine z2 (yl rfl)<|z6<|zz rfl (fun cp=>?_) (fun cp=>?_)
   ·have hp : ¬ passG s x.op x.args = true := fun h => by have h2 : passG (bumpG s g) x.op x.args = true := h; rw [h2] at cp; cases cp
    have hI : instG s x = trapG (bumpG s g) t := by unfold instG; rw [if_pos hc, if_neg hp, hgn, ht]
    refine zSr<|z2 (zMp rfl)<|z2 (zMi rfl)<|z2 (zn rfl)<|z2 (ze underlying100 rfl sizeOf45 (by decide) rfl rfl)<|z2 (ze underlying45 rfl sizeOf41 (by decide) rfl rfl)<|yn (l := [_]) (new := [_, _, _, _, _, _, _, _, _, _, _, _, _, _, _, _, _, _, _, _, _, _, _]) sizeOf41 rfl rfl rfl rfl rfl rfl .head rfl rfl<|z6<|zRg<|z2 (zMp rfl)<|y1 rfl (zm (.l (.l (.l (.l (.l (.l (.l (.rest _))))))))) (wend_spec f iw ja jb jc jo jt ids { bumpG s g with tr := t } 1) ?_
    rintro r50 O50 ⟨rfl, rfl⟩
    refine z6<|zg<|yv ?_
    exact ⟨jo, jt, ids, by rw [hI]; exact hids, rfl, by rw [hI]; rfl⟩
   ·have hp : passG s x.op x.args = true := by cases h : passG s x.op x.args; have h2 : passG (bumpG s g) x.op x.args = false := h; rw [h2] at cp; cases cp; rfl
    have hI : instG s x = bumpG s g := by unfold instG; rw [if_pos hc, if_pos hp, hgn]
    refine zh<|zg<|yv ?_
    exact ⟨jo, jt, ids, by rw [hI]; exact hids, rfl, by rw [hI]; rfl⟩
 ·have hc : ¬ (18 ≤ x.op ∧ x.op ≤ 24) := fun h => by rw [if_pos h] at ht; omega
  refine zh<|zSr<|z2 (zFF underlying61 rfl sizeOf23 rfl rfl)<|z2 (zLf isAgg23 rfl)<|z2 (zAf rfl)<|z6<|zSr<|z2 (zAi rfl)<|z2 (zAi rfl)<|z6<|zSr<|z2 (zAb rfl)<|z2 (zAb rfl)<|z2 (zAi rfl)<|z6<|zd<|zSr<|z2 (zMf rfl)<|z2 (y2 underlying23 rfl)<|z2 (q4 rfl rfl)<|z6<|yp (γ := Int × Bool × Int) [0, 3, 4, 6, 8, 10] (fun u => [(7, .int .i64 u.1), (9, .bool u.2.1), (11, .int .i64 u.2.2)]) (fun u => wO f iw ja jb jc jo jt ids s) (fun u => 0 < x.args.length → u = (aG s x, pG s x, rG s x)) ?_ (fun _ _ h => h) ?_
  ·refine zr rfl (fun ca=>?_) (fun ca=>?_)
   ·have ca : 0 < x.args.length := by omega
    obtain ⟨q0, r0⟩ := hx.a0 ca
    refine zu (fun j => false) (by kernel_rfl) rfl (zm (.r (.r (.r (.r (.rest _))))))<|zTk 0 rfl (zMp rfl)<|zTk 1 rfl (zn rfl)<|zTk 2 rfl (ze underlying100 rfl sizeOf42 (by decide) rfl rfl)<|zTk 3 rfl (zl (c := .own _ _) isAgg42 rfl ⟨_, .head⟩ rfl)<|zTk 4 rfl (zMf rfl)<|zTk 5 rfl (zIM 0 underlying23 sizeOf3 rfl rfl rfl (get0 ca))<|zTk 6 rfl (zLi isAgg3 rfl)<|zTk 7 rfl (yf (j := (ar0 x).toNat) underlying42 sizeOf2 rfl rfl (w5 r0).symm ⟨_, .t1⟩ ((cI_len _).trans hl1) (by omega))<|zTk 8 rfl (yt (j := (ar0 x).toNat) isAgg2 rfl ⟨_, .t1⟩ (vi_get (by omega) r0))<|zTk 9 rfl (zMp rfl)<|zTk 10 rfl (zn rfl)<|zTk 11 rfl (ze underlying100 rfl sizeOf98 (by decide) rfl rfl)<|zTk 12 rfl (zl (c := .own _ _) isAgg98 rfl ⟨_, .head⟩ rfl)<|zTk 13 rfl (zMf rfl)<|zTk 14 rfl (zIM 0 underlying23 sizeOf3 rfl rfl rfl (get0 ca))<|zTk 15 rfl (zLi isAgg3 rfl)<|zTk 16 rfl (yf (j := (ar0 x).toNat) underlying98 sizeOf4 rfl rfl (w5 r0).symm ⟨_, .t2⟩ ((cB_len _).trans hl2) (by omega))<|zTk 17 rfl (Gv.loadB (j := (ar0 x).toNat) isAgg4 rfl ⟨_, .t2⟩ (gb_get (by omega) r0))<|zTk 18 rfl (zMp rfl)<|zTk 19 rfl (zn rfl)<|zTk 20 rfl (ze underlying100 rfl sizeOf23 (by decide) rfl rfl)<|zTk 21 rfl (zl (c := .own _ _) isAgg23 rfl ⟨_, .head⟩ rfl)<|zTk 22 rfl (zMf rfl)<|zTk 23 rfl (zIM 0 underlying23 sizeOf3 rfl rfl rfl (get0 ca))<|zTk 24 rfl (zLi isAgg3 rfl)<|zTk 25 rfl (yf (j := (ar0 x).toNat) underlying23 sizeOf3 rfl rfl (w5 r0).symm ⟨_, .t3⟩ ((cI_len _).trans hl3) (by omega))<|zTk 26 rfl (yt (j := (ar0 x).toNat) isAgg3 rfl ⟨_, .t3⟩ (vi_get (by omega) r0))<|zTk 27 rfl (zAi rfl)<|zTk 28 rfl (zAb rfl)<|zTk 29 rfl (zAi rfl)<|zDn ?_
    exact ⟨(aG s x, pG s x, rG s x), zR6, zR3, zLe, fun _ => rfl⟩
   ·refine zh ?_
    exact ⟨(0, false, -1), zR6, zR3, zLe, fun h => absurd h (by omega)⟩
  ·rintro ⟨a, p, r⟩ hu
   refine zd<|zSr<|z2 (zMf rfl)<|z2 (y2 underlying23 rfl)<|z2 (q4 rfl rfl)<|z6<|yp (γ := Int × Bool) [0, 3, 4, 6, 7, 9, 11] (fun u => [(8, .int .i64 u.1), (10, .bool u.2)]) (fun u => wO f iw ja jb jc jo jt ids s) (fun u => 1 < x.args.length → u = (bG s x, qG s x)) ?_ (fun _ _ h => h) ?_
   ·refine zr rfl (fun ca=>?_) (fun ca=>?_)
    ·have ca : 1 < x.args.length := by omega
     obtain ⟨q0, r0⟩ := hx.a1 ca
     refine zu (fun j => false) (by kernel_rfl) rfl (zm (.r (.r (.r (.rest _)))))<|zTk 0 rfl (zMp rfl)<|zTk 1 rfl (zn rfl)<|zTk 2 rfl (ze underlying100 rfl sizeOf42 (by decide) rfl rfl)<|zTk 3 rfl (zl (c := .own _ _) isAgg42 rfl ⟨_, .head⟩ rfl)<|zTk 4 rfl (zMf rfl)<|zTk 5 rfl (zIM 1 underlying23 sizeOf3 rfl rfl rfl (get0 ca))<|zTk 6 rfl (zLi isAgg3 rfl)<|zTk 7 rfl (yf (j := (ar1 x).toNat) underlying42 sizeOf2 rfl rfl (w5 r0).symm ⟨_, .t1⟩ ((cI_len _).trans hl1) (by omega))<|zTk 8 rfl (yt (j := (ar1 x).toNat) isAgg2 rfl ⟨_, .t1⟩ (vi_get (by omega) r0))<|zTk 9 rfl (zMp rfl)<|zTk 10 rfl (zn rfl)<|zTk 11 rfl (ze underlying100 rfl sizeOf98 (by decide) rfl rfl)<|zTk 12 rfl (zl (c := .own _ _) isAgg98 rfl ⟨_, .head⟩ rfl)<|zTk 13 rfl (zMf rfl)<|zTk 14 rfl (zIM 1 underlying23 sizeOf3 rfl rfl rfl (get0 ca))<|zTk 15 rfl (zLi isAgg3 rfl)<|zTk 16 rfl (yf (j := (ar1 x).toNat) underlying98 sizeOf4 rfl rfl (w5 r0).symm ⟨_, .t2⟩ ((cB_len _).trans hl2) (by omega))<|zTk 17 rfl (Gv.loadB (j := (ar1 x).toNat) isAgg4 rfl ⟨_, .t2⟩ (gb_get (by omega) r0))<|zTk 18 rfl (zAi rfl)<|zTk 19 rfl (zAb rfl)<|zDn ?_
     exact ⟨(bG s x, qG s x), zR7, zR2, zLe, fun _ => rfl⟩
    ·refine zh ?_
     exact ⟨(0, false), zR7, zR2, zLe, fun h => absurd h (by omega)⟩
   ·rintro ⟨b, q⟩ hw
    refine zSr<|z2 (zFF underlying61 rfl sizeOf3 rfl rfl)<|z2 (zLi isAgg3 rfl)<|z2 (zAi rfl)<|z6<|zSr<|z2 (yq (v := .str _) rfl)<|z6<|zi<|zSr<|z2 (yy rfl rfl)<|z2 (zAb rfl)<|z6<|zr rfl (fun c0=>?_) (fun c0=>?_)
    ·have e : x.op = 0 := (word_op hop 0 (by decide) rfl).1 c0
     obtain ⟨d1, d0⟩ := hx.made (by rw [e]; decide)
     have hI : instG s x = stI s x.dst x.num := by rw [inst_do hc]; unfold doG; simp [e]
     refine zu (fun j => Nat.beq j 8) (by kernel_rfl) rfl (zm (.r (.rest _)))<|zTk 0 rfl (zMp rfl)<|zTk 1 rfl (zn rfl)<|zTk 2 rfl (ze underlying100 rfl sizeOf42 (by decide) rfl rfl)<|zTk 3 rfl (zl (c := .own _ _) isAgg42 rfl ⟨_, .head⟩ rfl)<|zTk 4 rfl (zMi rfl)<|zTk 5 rfl (zFF underlying61 rfl sizeOf2 rfl rfl)<|zTk 6 rfl (zLi isAgg2 rfl)<|zOn 7 rfl<|z2 (yf (j := x.dst.toNat) underlying42 sizeOf2 rfl rfl (w5 d0).symm ⟨_, .head⟩ ((cI_len _).trans hl1) (by omega))<|z6<|y8<|ya (i := 8) rfl (by kernel_rfl) (by kernel_rfl)<|yu (j := x.dst.toNat) sizeOf2 rfl rfl .t1 (by first | omega | (simp; omega))<|z6<|yd (by kernel_rfl)<|yv ?_
     exact ⟨jo, jt, ids, by rw [hI]; exact hids, rfl, by rw [hI]; rfl⟩
    ·have n0 : ¬ x.op = 0 := fun e => c0 ((word_op hop 0 (by decide) rfl).2 e)
     refine zd<|zSr<|z2 (yy rfl rfl)<|z2 (zAb rfl)<|z6<|yp (γ := Bool) [0, 3, 4, 6, 7, 8, 9, 10, 11, 12, 106] (fun z => [(117, .bool z)]) (fun z => wO f iw ja jb jc jo jt ids s) (fun z => z = decide (x.op = 1 ∨ x.op = 25 ∨ x.op = 26)) ?_ (fun _ _ h => h) ?_
     ·refine zr rfl (fun c1=>?_) (fun c1=>?_)
      ·have e : x.op = 1 := (word_op hop 1 (by decide) rfl).1 c1
       refine zh ?_
       exact ⟨_, zR11, zR1, zLe, by rw [w3 c1, e]; rfl⟩
      ·have n1 : ¬ x.op = 1 := fun e => c1 ((word_op hop 1 (by decide) rfl).2 e)
       refine zSr<|z2 (yy rfl rfl)<|z2 (zAb rfl)<|z6<|zr rfl (fun c25=>?_) (fun c25=>?_)
       ·have e : x.op = 25 := (word_op hop 25 (by decide) rfl).1 c25
        refine zh ?_
        exact ⟨_, zR11, zR1, zLe, by rw [w3 c25, e]; rfl⟩
       ·have n25 : ¬ x.op = 25 := fun e => c25 ((word_op hop 25 (by decide) rfl).2 e)
        refine zRg<|z2 (yy rfl rfl)<|z2 (zAb rfl)<|z6 ?_
        exact ⟨_, zR11, zR1, zLe, by rw [decide_eq_decide]; exact ⟨fun h => .inr (.inr ((word_op hop 26 (by decide) rfl).1 h)), fun h => (word_op hop 26 (by decide) rfl).2 ((h.resolve_left n1).resolve_left n25)⟩⟩
     ·rintro z hz
      refine zz rfl (fun cz=>?_) (fun cz=>?_)
      ·have e : x.op = 1 ∨ x.op = 25 ∨ x.op = 26 := of_decide_eq_true (hz.symm.trans cz)
       obtain ⟨d1, d0⟩ := hx.made (by rcases e with e | e | e <;> (rw [e]; decide))
       obtain ⟨rfl, rfl, rfl⟩ : a = aG s x ∧ p = pG s x ∧ r = rG s x := by have := hu (by rcases e with e | e | e <;> (rw [hargc, e]; decide)); simpa using this
       have hI : instG s x = stA (stB (stI s x.dst (aG s x)) x.dst (pG s x)) x.dst (rG s x) := by rw [inst_do hc]; unfold doG; rw [if_neg n0, if_pos e]
       refine AWP.regionDrawR (by kernel_rfl) rfl (zm (.r (.l (.l (.l (.l (.l (.l (.rest _)))))))))<|y6 (i := 0) rfl (by kernel_rfl) (by kernel_rfl) (by kernel_rfl) (zMp rfl)<|y6 (i := 1) rfl (by kernel_rfl) (by kernel_rfl) (by kernel_rfl) (zn rfl)<|y6 (i := 2) rfl (by kernel_rfl) (by kernel_rfl) (by kernel_rfl) (ze underlying100 rfl sizeOf42 (by decide) rfl rfl)<|y6 (i := 3) rfl (by kernel_rfl) (by kernel_rfl) (by kernel_rfl) (zl (c := .own _ _) isAgg42 rfl ⟨_, .head⟩ rfl)<|y6 (i := 4) rfl (by kernel_rfl) (by kernel_rfl) (by kernel_rfl) (zMi rfl)<|y6 (i := 5) rfl (by kernel_rfl) (by kernel_rfl) (by kernel_rfl) (zMp rfl)<|y6 (i := 6) rfl (by kernel_rfl) (by kernel_rfl) (by kernel_rfl) (zn rfl)<|y6 (i := 7) rfl (by kernel_rfl) (by kernel_rfl) (by kernel_rfl) (ze underlying100 rfl sizeOf98 (by decide) rfl rfl)<|y6 (i := 8) rfl (by kernel_rfl) (by kernel_rfl) (by kernel_rfl) (zl (c := .own _ _) isAgg98 rfl ⟨_, .head⟩ rfl)<|y6 (i := 9) rfl (by kernel_rfl) (by kernel_rfl) (by kernel_rfl) (zMi rfl)<|y6 (i := 10) rfl (by kernel_rfl) (by kernel_rfl) (by kernel_rfl) (zMp rfl)<|y6 (i := 11) rfl (by kernel_rfl) (by kernel_rfl) (by kernel_rfl) (zn rfl)<|y6 (i := 12) rfl (by kernel_rfl) (by kernel_rfl) (by kernel_rfl) (ze underlying100 rfl sizeOf23 (by decide) rfl rfl)<|y6 (i := 13) rfl (by kernel_rfl) (by kernel_rfl) (by kernel_rfl) (zl (c := .own _ _) isAgg23 rfl ⟨_, .head⟩ rfl)<|y6 (i := 14) rfl (by kernel_rfl) (by kernel_rfl) (by kernel_rfl) (zMi rfl)<|y6 (i := 15) rfl (by kernel_rfl) (by kernel_rfl) (by kernel_rfl) (zMi rfl)<|y6 (i := 16) rfl (by kernel_rfl) (by kernel_rfl) (by kernel_rfl) (zMb rfl)<|y6 (i := 17) rfl (by kernel_rfl) (by kernel_rfl) (by kernel_rfl) (zMi rfl)<|qm (i := 18) rfl (by kernel_rfl)<|z2 (yf (j := x.dst.toNat) underlying42 sizeOf2 rfl rfl (w5 d0).symm ⟨_, .head⟩ ((cI_len _).trans hl1) (by omega))<|z6<|qm (i := 19) rfl (by kernel_rfl)<|yu (j := x.dst.toNat) sizeOf2 rfl rfl .head (by first | omega | (simp; omega))<|z6<|qm (i := 20) rfl (by kernel_rfl)<|z2 (yf (j := x.dst.toNat) underlying98 sizeOf4 rfl rfl (w5 d0).symm ⟨_, .t1⟩ ((cB_len _).trans hl2) (by omega))<|z6<|qm (i := 21) rfl (by kernel_rfl)<|qc (j := x.dst.toNat) sizeOf4 rfl rfl .t1 (by first | omega | (simp; omega))<|z6<|qm (i := 22) rfl (by kernel_rfl)<|z2 (yf (j := x.dst.toNat) underlying23 sizeOf3 rfl rfl (w5 d0).symm ⟨_, .t2⟩ ((cI_len _).trans hl3) (by omega))<|z6<|qm (i := 23) rfl (by kernel_rfl)<|yu (j := x.dst.toNat) sizeOf3 rfl rfl .t2 (by first | omega | (simp; omega))<|z6<|AAnyR.done (by kernel_rfl)<|yv ?_
       exact ⟨jo, jt, ids, by rw [hI]; exact hids, rfl, by rw [hI]; rfl⟩
      ·have n1 : ¬ (x.op = 1 ∨ x.op = 25 ∨ x.op = 26) := of_decide_eq_false (hz.symm.trans cz)
       refine zd<|zSr<|z2 (yy rfl rfl)<|z2 (zAb rfl)<|z6<|yp (γ := Bool) [0, 3, 4, 6, 7, 8, 9, 10, 11, 12, 106] (fun z => [(142, .bool z)]) (fun z => wO f iw ja jb jc jo jt ids s) (fun z => z = decide (x.op = 2 ∨ x.op = 3 ∨ x.op = 4)) ?_ (fun _ _ h => h) ?_
       ·refine zr rfl (fun c2=>?_) (fun c2=>?_)
        ·have e : x.op = 2 := (word_op hop 2 (by decide) rfl).1 c2
         refine zh ?_
         exact ⟨_, zR11, zR1, zLe, by rw [w3 c2, e]; rfl⟩
        ·have n2 : ¬ x.op = 2 := fun e => c2 ((word_op hop 2 (by decide) rfl).2 e)
         refine zSr<|z2 (yy rfl rfl)<|z2 (zAb rfl)<|z6<|zr rfl (fun c3=>?_) (fun c3=>?_)
         ·have e : x.op = 3 := (word_op hop 3 (by decide) rfl).1 c3
          refine zh ?_
          exact ⟨_, zR11, zR1, zLe, by rw [w3 c3, e]; rfl⟩
         ·have n3 : ¬ x.op = 3 := fun e => c3 ((word_op hop 3 (by decide) rfl).2 e)
          refine zRg<|z2 (yy rfl rfl)<|z2 (zAb rfl)<|z6 ?_
          exact ⟨_, zR11, zR1, zLe, by rw [decide_eq_decide]; exact ⟨fun h => .inr (.inr ((word_op hop 4 (by decide) rfl).1 h)), fun h => (word_op hop 4 (by decide) rfl).2 ((h.resolve_left n2).resolve_left n3)⟩⟩
       ·rintro z hz2
        refine zz rfl (fun cz2=>?_) (fun cz2=>?_)
        ·have e : x.op = 2 ∨ x.op = 3 ∨ x.op = 4 := of_decide_eq_true (hz2.symm.trans cz2)
         obtain ⟨d1, d0⟩ := hx.made (by rcases e with e | e | e <;> (rw [e]; decide))
         obtain ⟨rfl, _, _⟩ : a = aG s x ∧ p = pG s x ∧ r = rG s x := by have := hu (by rcases e with e | e | e <;> (rw [hargc, e]; decide)); simpa using this
         obtain ⟨rfl, _⟩ : b = bG s x ∧ q = qG s x := by have := hw (by rcases e with e | e | e <;> (rw [hargc, e]; decide)); simpa using this
         obtain ⟨k, hk, hxk⟩ : ∃ k : Nat, k ≤ 2 ∧ x.op - 2 = (k : Int) := ⟨(x.op - 2).toNat, by omega, by omega⟩
         have hI : instG s x = stI s x.dst (IntKind.i64.wrap (op3 k (aG s x) (bG s x))) := by
          rw [inst_do hc]; unfold doG; rw [if_neg n0, if_neg n1]
          have : k = 0 ∨ k = 1 ∨ k = 2 := by omega
          rcases this with rfl | rfl | rfl
          ·rw [if_pos (by omega)]
          ·rw [if_neg (by omega), if_pos (by omega)]
          ·rw [if_neg (by omega), if_neg (by omega), if_pos (by omega)]
         have hwr := rWrap (E := E) hk (x := aG s x) (y := bG s x)
         rw [← hxk] at hwr
         refine zu (fun j => Nat.beq j 12) (by kernel_rfl) rfl (zm (.r (.rest _)))<|zTk 0 rfl (zMp rfl)<|zTk 1 rfl (zn rfl)<|zTk 2 rfl (ze underlying100 rfl sizeOf42 (by decide) rfl rfl)<|zTk 3 rfl (zl (c := .own _ _) isAgg42 rfl ⟨_, .head⟩ rfl)<|zTk 4 rfl (zMi rfl)<|zTk 5 rfl (zFF underlying61 rfl sizeOf59 rfl rfl)<|zTk 6 rfl (zLi isAgg59 rfl)<|zTk 7 rfl (Gv.sub rfl rfl (by unfold I64; omega))<|zTk 8 rfl (zMi rfl)<|zTk 9 rfl (zMi rfl)<|zOn 10 rfl<|zf (hwr) rfl<|z6<|zOn 11 rfl<|z2 (yf (j := x.dst.toNat) underlying42 sizeOf2 rfl rfl (w5 d0).symm ⟨_, .head⟩ ((cI_len _).trans hl1) (by omega))<|z6<|y8<|ya (i := 12) rfl (by kernel_rfl) (by kernel_rfl)<|yu (j := x.dst.toNat) sizeOf2 rfl rfl .t1 (by first | omega | (simp; omega))<|z6<|yd (by kernel_rfl)<|yv ?_
         exact ⟨jo, jt, ids, by rw [hI]; exact hids, rfl, by rw [hI]; rfl⟩
        ·have n2 : ¬ (x.op = 2 ∨ x.op = 3 ∨ x.op = 4) := of_decide_eq_false (hz2.symm.trans cz2)
         refine zd<|zSr<|z2 (yy rfl rfl)<|z2 (zAb rfl)<|z6<|yp (γ := Bool) [0, 4, 6, 7, 8, 9, 10, 11, 12, 106] (fun z => [(158, .bool z)]) (fun z => wO f iw ja jb jc jo jt ids s) (fun z => z = decide (x.op = 5 ∨ x.op = 6)) ?_ (fun _ _ h => h) ?_
         ·refine zr rfl (fun c5=>?_) (fun c5=>?_)
          ·have e : x.op = 5 := (word_op hop 5 (by decide) rfl).1 c5
           refine zh ?_
           exact ⟨_, zR10, zR1, zLe, by rw [w3 c5, e]; rfl⟩
          ·have n5 : ¬ x.op = 5 := fun e => c5 ((word_op hop 5 (by decide) rfl).2 e)
           refine zRg<|z2 (yy rfl rfl)<|z2 (zAb rfl)<|z6 ?_
           exact ⟨_, zR10, zR1, zLe, by rw [decide_eq_decide]; exact ⟨fun h => .inr ((word_op hop 6 (by decide) rfl).1 h), fun h => (word_op hop 6 (by decide) rfl).2 (h.resolve_left n5)⟩⟩
         ·rintro z hz3
          refine zz rfl (fun cz3=>?_) (fun cz3=>?_)
          ·have e : x.op = 5 ∨ x.op = 6 := of_decide_eq_true (hz3.symm.trans cz3)
           obtain ⟨d1, d0⟩ := hx.made (by rcases e with e | e <;> (rw [e]; decide))
           obtain ⟨rfl, _, _⟩ : a = aG s x ∧ p = pG s x ∧ r = rG s x := by have := hu (by rcases e with e | e <;> (rw [hargc, e]; decide)); simpa using this
           obtain ⟨rfl, _⟩ : b = bG s x ∧ q = qG s x := by have := hw (by rcases e with e | e <;> (rw [hargc, e]; decide)); simpa using this
           have hD : doG s x = if bG s x = 0 then stopG s 2 else stI s x.dst (if x.op = 6 then remG (aG s x) (bG s x) else quoG (aG s x) (bG s x)) := by
            rcases e with e | e <;> (unfold doG; simp [e])
           refine zd<|zSr<|z2 (zMi rfl)<|z2 (y7 rfl rfl)<|z6<|zr rfl (fun c0b=>?_) (fun c0b=>?_)
           ·have hI : instG s x = stopG s 2 := by rw [inst_do hc, hD, if_pos (by omega)]
            refine zSr<|z2 (zMp rfl)<|y1 rfl (zm (.l (.l (.l (.l (.l (.l (.l (.rest _))))))))) (wend_spec f iw ja jb jc jo jt ids s 2) ?_
            rintro r164 O164 ⟨rfl, rfl⟩
            refine z6<|zg<|yv ?_
            exact ⟨jo, jt, ids, by rw [hI]; exact hids, rfl, by rw [hI]; rfl⟩
           ·have hb0 : ¬ bG s x = 0 := by omega
            have hI : instG s x = stI s x.dst (if x.op = 6 then remG (aG s x) (bG s x) else quoG (aG s x) (bG s x)) := by rw [inst_do hc, hD, if_neg hb0]
            refine zh<|zSr<|z2 (zMi rfl)<|z2 (zMi rfl)<|zf (rDiv2 hb0) rfl<|z2 (zMu rfl)<|z2 (zXi rfl rfl)<|z2 (zXi rfl rfl)<|z2 (zAi rfl)<|z2 (zAi rfl)<|z6<|zd<|zSr<|z2 (yq (v := .str _) rfl)<|z2 (yy rfl rfl)<|z6<|yp (γ := Int) [0, 12] (fun v => [(13, .int .i64 v)]) (fun v => wO f iw ja jb jc jo jt ids s) (fun v => v = if x.op = 6 then remG (aG s x) (bG s x) else quoG (aG s x) (bG s x)) ?_ (fun _ _ h => h) ?_
            ·refine zr rfl (fun c6=>?_) (fun c6=>?_)
             ·have e6 : x.op = 6 := (word_op hop 6 (by decide) rfl).1 c6
              refine zRg<|z2 (zMi rfl)<|z2 (zAi rfl)<|z6 ?_
              exact ⟨_, zR2, zR1, zLe, by rw [if_pos e6]; rfl⟩
             ·have e6 : ¬ x.op = 6 := fun e => c6 ((word_op hop 6 (by decide) rfl).2 e)
              refine zh ?_
              exact ⟨_, zR2, zR1, zLe, by rw [if_neg e6]; rfl⟩
            ·rintro v hv3
             rw [← hv3] at hI
             refine zRg<|z2 (zMp rfl)<|z2 (zn rfl)<|z2 (ze underlying100 rfl sizeOf42 (by decide) rfl rfl)<|z2 (zl (c := .own _ _) isAgg42 rfl ⟨_, .head⟩ rfl)<|z2 (zMi rfl)<|z2 (zMi rfl)<|z2 (yf (j := x.dst.toNat) underlying42 sizeOf2 rfl rfl (w5 d0).symm ⟨_, .t1⟩ ((cI_len _).trans hl1) (by omega))<|yu (j := x.dst.toNat) sizeOf2 rfl rfl .t1 (by first | omega | (simp; omega))<|z6<|yv ?_
             exact ⟨jo, jt, ids, by rw [hI]; exact hids, rfl, by rw [hI]; rfl⟩
          ·have n5 : ¬ (x.op = 5 ∨ x.op = 6) := of_decide_eq_false (hz3.symm.trans cz3)
           refine zSr<|z2 (yy rfl rfl)<|z2 (zAb rfl)<|z6<|zr rfl (fun c7=>?_) (fun c7=>?_)
           ·have e : x.op = 7 := (word_op hop 7 (by decide) rfl).1 c7
            obtain ⟨d1, d0⟩ := hx.made (by rw [e]; decide)
            obtain ⟨rfl, _, _⟩ : a = aG s x ∧ p = pG s x ∧ r = rG s x := by have := hu (by rw [hargc, e]; decide); simpa using this
            obtain ⟨rfl, _⟩ : b = bG s x ∧ q = qG s x := by have := hw (by rw [hargc, e]; decide); simpa using this
            have hI : instG s x = stB s x.dst (decide (aG s x = bG s x)) := by rw [inst_do hc]; unfold doG; simp [e]
            refine zRg<|z2 (zMp rfl)<|z2 (zn rfl)<|z2 (ze underlying100 rfl sizeOf98 (by decide) rfl rfl)<|z2 (zl (c := .own _ _) isAgg98 rfl ⟨_, .head⟩ rfl)<|z2 (zMi rfl)<|z2 (zMi rfl)<|z2 (zMi rfl)<|z2 (y7 rfl rfl)<|z2 (yf (j := x.dst.toNat) underlying98 sizeOf4 rfl rfl (w5 d0).symm ⟨_, .t2⟩ ((cB_len _).trans hl2) (by omega))<|qc (j := x.dst.toNat) sizeOf4 rfl rfl .t2 (by first | omega | (simp; omega))<|z6<|yv ?_
            exact ⟨jo, jt, ids, by rw [hI]; exact hids, rfl, by rw [hI]; rfl⟩
           ·have n7 : ¬ x.op = 7 := fun e => c7 ((word_op hop 7 (by decide) rfl).2 e)
            refine zSr<|z2 (yy rfl rfl)<|z2 (zAb rfl)<|z6<|zr rfl (fun c8=>?_) (fun c8=>?_)
            ·have e : x.op = 8 := (word_op hop 8 (by decide) rfl).1 c8
             obtain ⟨d1, d0⟩ := hx.made (by rw [e]; decide)
             obtain ⟨rfl, _, _⟩ : a = aG s x ∧ p = pG s x ∧ r = rG s x := by have := hu (by rw [hargc, e]; decide); simpa using this
             obtain ⟨rfl, _⟩ : b = bG s x ∧ q = qG s x := by have := hw (by rw [hargc, e]; decide); simpa using this
             have hI : instG s x = stB s x.dst (decide (aG s x < bG s x)) := by rw [inst_do hc]; unfold doG; simp [e]
             refine zRg<|z2 (zMp rfl)<|z2 (zn rfl)<|z2 (ze underlying100 rfl sizeOf98 (by decide) rfl rfl)<|z2 (zl (c := .own _ _) isAgg98 rfl ⟨_, .head⟩ rfl)<|z2 (zMi rfl)<|z2 (zMi rfl)<|z2 (zMi rfl)<|z2 (yb rfl rfl)<|z2 (yf (j := x.dst.toNat) underlying98 sizeOf4 rfl rfl (w5 d0).symm ⟨_, .t2⟩ ((cB_len _).trans hl2) (by omega))<|qc (j := x.dst.toNat) sizeOf4 rfl rfl .t2 (by first | omega | (simp; omega))<|z6<|yv ?_
             exact ⟨jo, jt, ids, by rw [hI]; exact hids, rfl, by rw [hI]; rfl⟩
            ·have n8 : ¬ x.op = 8 := fun e => c8 ((word_op hop 8 (by decide) rfl).2 e)
             refine zSr<|z2 (yy rfl rfl)<|z2 (zAb rfl)<|z6<|zr rfl (fun c9=>?_) (fun c9=>?_)
             ·have e : x.op = 9 := (word_op hop 9 (by decide) rfl).1 c9
              obtain ⟨d1, d0⟩ := hx.made (by rw [e]; decide)
              obtain ⟨rfl, _, _⟩ : a = aG s x ∧ p = pG s x ∧ r = rG s x := by have := hu (by rw [hargc, e]; decide); simpa using this
              obtain ⟨rfl, _⟩ : b = bG s x ∧ q = qG s x := by have := hw (by rw [hargc, e]; decide); simpa using this
              have hI : instG s x = stB s x.dst (decide (aG s x ≤ bG s x)) := by rw [inst_do hc]; unfold doG; simp [e]
              refine zRg<|z2 (zMp rfl)<|z2 (zn rfl)<|z2 (ze underlying100 rfl sizeOf98 (by decide) rfl rfl)<|z2 (zl (c := .own _ _) isAgg98 rfl ⟨_, .head⟩ rfl)<|z2 (zMi rfl)<|z2 (zMi rfl)<|z2 (zMi rfl)<|z2 (Gv.leq rfl rfl)<|z2 (yf (j := x.dst.toNat) underlying98 sizeOf4 rfl rfl (w5 d0).symm ⟨_, .t2⟩ ((cB_len _).trans hl2) (by omega))<|qc (j := x.dst.toNat) sizeOf4 rfl rfl .t2 (by first | omega | (simp; omega))<|z6<|yv ?_
              exact ⟨jo, jt, ids, by rw [hI]; exact hids, rfl, by rw [hI]; rfl⟩
             ·have n9 : ¬ x.op = 9 := fun e => c9 ((word_op hop 9 (by decide) rfl).2 e)
              refine zSr<|z2 (yy rfl rfl)<|z2 (zAb rfl)<|z6<|zr rfl (fun c10=>?_) (fun c10=>?_)
              ·have e : x.op = 10 := (word_op hop 10 (by decide) rfl).1 c10
               obtain ⟨d1, d0⟩ := hx.made (by rw [e]; decide)
               obtain ⟨_, rfl, _⟩ : a = aG s x ∧ p = pG s x ∧ r = rG s x := by have := hu (by rw [hargc, e]; decide); simpa using this
               have hI : instG s x = stB s x.dst (!pG s x) := by rw [inst_do hc]; unfold doG; simp [e]
               refine zRg<|z2 (zMp rfl)<|z2 (zn rfl)<|z2 (ze underlying100 rfl sizeOf98 (by decide) rfl rfl)<|z2 (zl (c := .own _ _) isAgg98 rfl ⟨_, .head⟩ rfl)<|z2 (zMi rfl)<|z2 (zMb rfl)<|z2 (yl rfl)<|z2 (yf (j := x.dst.toNat) underlying98 sizeOf4 rfl rfl (w5 d0).symm ⟨_, .t2⟩ ((cB_len _).trans hl2) (by omega))<|qc (j := x.dst.toNat) sizeOf4 rfl rfl .t2 (by first | omega | (simp; omega))<|z6<|yv ?_
               exact ⟨jo, jt, ids, by rw [hI]; exact hids, rfl, by rw [hI]; rfl⟩
              ·have n10 : ¬ x.op = 10 := fun e => c10 ((word_op hop 10 (by decide) rfl).2 e)
               refine zSr<|z2 (yy rfl rfl)<|z2 (zAb rfl)<|z6<|zr rfl (fun c11=>?_) (fun c11=>?_)
               ·have e : x.op = 11 := (word_op hop 11 (by decide) rfl).1 c11
                obtain ⟨d1, d0⟩ := hx.made (by rw [e]; decide)
                obtain ⟨_, rfl, _⟩ : a = aG s x ∧ p = pG s x ∧ r = rG s x := by have := hu (by rw [hargc, e]; decide); simpa using this
                obtain ⟨_, rfl⟩ : b = bG s x ∧ q = qG s x := by have := hw (by rw [hargc, e]; decide); simpa using this
                have hI : instG s x = stB s x.dst (pG s x && qG s x) := by rw [inst_do hc]; unfold doG; simp [e]
                refine zRg<|z2 (zMp rfl)<|z2 (zn rfl)<|z2 (ze underlying100 rfl sizeOf98 (by decide) rfl rfl)<|z2 (zl (c := .own _ _) isAgg98 rfl ⟨_, .head⟩ rfl)<|z2 (zMi rfl)<|z2 (zMb rfl)<|z2 (zMb rfl)<|zt (s := 232) rfl (fun cp=>?_) (fun cp=>?_)
                ·have cp : pG s x = true := cp
                 rw [cp, Bool.true_and] at hI
                 refine z8 rfl rfl cp<|z2 (zMb rfl)<|z2 (zPt rfl cp rfl)<|z2 (yf (j := x.dst.toNat) underlying98 sizeOf4 rfl rfl (w5 d0).symm ⟨_, .t2⟩ ((cB_len _).trans hl2) (by omega))<|qc (j := x.dst.toNat) sizeOf4 rfl rfl .t2 (by first | omega | (simp; omega))<|z6<|yv ?_
                 exact ⟨jo, jt, ids, by rw [hI]; exact hids, rfl, by rw [hI]; rfl⟩
                ·have cp : pG s x = false := cp
                 rw [cp, Bool.false_and] at hI
                 refine z7 rfl rfl cp<|z2 (zPf rfl cp rfl)<|z2 (yf (j := x.dst.toNat) underlying98 sizeOf4 rfl rfl (w5 d0).symm ⟨_, .t2⟩ ((cB_len _).trans hl2) (by omega))<|qc (j := x.dst.toNat) sizeOf4 rfl rfl .t2 (by first | omega | (simp; omega))<|z6<|yv ?_
                 exact ⟨jo, jt, ids, by rw [hI]; exact hids, rfl, by rw [hI]; rfl⟩
               ·have n11 : ¬ x.op = 11 := fun e => c11 ((word_op hop 11 (by decide) rfl).2 e)
                refine zSr<|z2 (yy rfl rfl)<|z2 (zAb rfl)<|z6<|zr rfl (fun c12=>?_) (fun c12=>?_)
                ·have e : x.op = 12 := (word_op hop 12 (by decide) rfl).1 c12
                 obtain ⟨d1, d0⟩ := hx.made (by rw [e]; decide)
                 obtain ⟨_, _, rfl⟩ : a = aG s x ∧ p = pG s x ∧ r = rG s x := by have := hu (by rw [hargc, e]; decide); simpa using this
                 have hrr : rG s x < s.arrays.length := (arr_any hg (hx.a0 (by rw [hargc, e]; decide))).2
                 refine zd<|zSr<|z2 (zMi rfl)<|z2 (yb rfl rfl)<|z6<|zr rfl (fun cr=>?_) (fun cr=>?_)
                 ·have cr : rG s x < 0 := by omega
                  have hI : instG s x = stopG s 2 := by rw [inst_do hc]; unfold doG; simp [e, cr]
                  refine zSr<|z2 (zMp rfl)<|y1 rfl (zm (.l (.l (.l (.l (.l (.l (.l (.rest _))))))))) (wend_spec f iw ja jb jc jo jt ids s 2) ?_
                  rintro r241 O241 ⟨rfl, rfl⟩
                  refine z6<|zg<|yv ?_
                  exact ⟨jo, jt, ids, by rw [hI]; exact hids, rfl, by rw [hI]; rfl⟩
                 ·have cr : ¬ rG s x < 0 := by omega
                  have hI : instG s x = stI s x.dst ((rowG s (rG s x)).length) := by rw [inst_do hc]; unfold doG; simp [e, cr]
                  obtain ⟨w, hw0⟩ := get_id hids (j := (rG s x).toNat) (by omega)
                  refine zh<|zu (fun j => Nat.beq j 14) (by kernel_rfl) rfl (zm (.r (.l (.l (.l (.r (.rest _)))))))<|zTk 0 rfl (zMp rfl)<|zTk 1 rfl (zn rfl)<|zTk 2 rfl (ze underlying100 rfl sizeOf42 (by decide) rfl rfl)<|zTk 3 rfl (zl (c := .own _ _) isAgg42 rfl ⟨_, .head⟩ rfl)<|zTk 4 rfl (zMi rfl)<|zTk 5 rfl (zMp rfl)<|zTk 6 rfl (zn rfl)<|zTk 7 rfl (ze underlying100 rfl sizeOf35 (by decide) rfl rfl)<|zTk 8 rfl (zl (c := .own _ _) isAgg35 rfl ⟨_, .head⟩ rfl)<|zTk 9 rfl (zMi rfl)<|zTk 10 rfl (yf (j := (rG s x).toNat) underlying35 sizeOf42 rfl rfl (w5 (Int.not_lt.1 cr)).symm ⟨_, .t1⟩ (owns_len hids) (by omega))<|zTk 11 rfl (Gv.load1G (c := _) isAgg42 rfl ⟨_, .t1⟩ (owns_drop hw0 (row_get (by omega) hrr)))<|zTk 12 rfl (Gv.lenO underlying42 rfl)<|zOn 13 rfl<|z2 (yf (j := x.dst.toNat) underlying42 sizeOf2 rfl rfl (w5 d0).symm ⟨_, .head⟩ ((cI_len _).trans hl1) (by omega))<|z6<|y8<|ya (i := 14) rfl (by kernel_rfl) (by kernel_rfl)<|yu (j := x.dst.toNat) sizeOf2 rfl rfl .t2 (by first | omega | (simp; omega))<|z6<|yd (by kernel_rfl)<|yw (za (zb .t4))<|yw (za (zb .t4))<|yw (za (zb .t4))<|yw (za (zb .t3))<|yv ?_
                  exact ⟨jo, jt, ids, by rw [hI]; exact hids, rfl, by rw [hI]; rfl⟩
                ·have n12 : ¬ x.op = 12 := fun e => c12 ((word_op hop 12 (by decide) rfl).2 e)
                 refine zSr<|z2 (yy rfl rfl)<|z2 (zAb rfl)<|z6<|zr rfl (fun c13=>?_) (fun c13=>?_)
                 ·have e : x.op = 13 := (word_op hop 13 (by decide) rfl).1 c13
                  obtain ⟨d1, d0⟩ := hx.made (by rw [e]; decide)
                  obtain ⟨_, _, rfl⟩ : a = aG s x ∧ p = pG s x ∧ r = rG s x := by have := hu (by rw [hargc, e]; decide); simpa using this
                  obtain ⟨rfl, _⟩ : b = bG s x ∧ q = qG s x := by have := hw (by rw [hargc, e]; decide); simpa using this
                  refine zd<|zSr<|z2 (zMp rfl)<|z2 (zMi rfl)<|z2 (zMi rfl)<|y1 rfl (zm (.l (.l (.l (.l (.l (.l (.l (.rest _))))))))) (wplace_spec f iw ja jb jc jo jt ids s (rG s x) (bG s x) hids) ?_
                  rintro r261 O261 ⟨rfl, rfl⟩
                  refine z2 (yl rfl)<|z6<|zz rfl (fun cp=>?_) (fun cp=>?_)
                  ·have cp : ¬ placeG s (rG s x) (bG s x) = true := by simpa using cp
                   have hI : instG s x = stopG s 2 := by rw [inst_do hc]; unfold doG; simp [e, cp]
                   refine zSr<|z2 (zMp rfl)<|y1 rfl (zm (.l (.l (.l (.l (.l (.l (.l (.rest _))))))))) (wend_spec f iw ja jb jc jo jt ids s 2) ?_
                   rintro r264 O264 ⟨rfl, rfl⟩
                   refine z6<|zg<|yv ?_
                   exact ⟨jo, jt, ids, by rw [hI]; exact hids, rfl, by rw [hI]; rfl⟩
                  ·have cp : placeG s (rG s x) (bG s x) = true := by simpa using cp
                   obtain ⟨h1, h2, h3, h4⟩ := place_iff.1 cp
                   obtain ⟨w, hw0⟩ := get_id hids (j := (rG s x).toNat) (by omega)
                   obtain ⟨X, hX1, hX2⟩ := zip_out rowA ids s.arrays _ hw0 (row_get h1 h2)
                   have hI : instG s x = stI s x.dst (vi (rowG s (rG s x)) (bG s x)) := by rw [inst_do hc]; unfold doG; simp [e, cp]
                   refine yc (GStep.bagOut (i := w) (o := .grow 1 2 (cI (rowG s (rG s x)))) (X' := X) (hX1) .t6)<|zh<|zu (fun j => Nat.beq j 16) (by kernel_rfl) rfl (zm (.r (.r (.l (.l (.l (.r (.rest _))))))))<|zTk 0 rfl (zMp rfl)<|zTk 1 rfl (zn rfl)<|zTk 2 rfl (ze underlying100 rfl sizeOf42 (by decide) rfl rfl)<|zTk 3 rfl (zl (c := .own _ _) isAgg42 rfl ⟨_, .t1⟩ rfl)<|zTk 4 rfl (zMi rfl)<|zTk 5 rfl (zMp rfl)<|zTk 6 rfl (zn rfl)<|zTk 7 rfl (ze underlying100 rfl sizeOf35 (by decide) rfl rfl)<|zTk 8 rfl (zl (c := .own _ _) isAgg35 rfl ⟨_, .t1⟩ rfl)<|zTk 9 rfl (zMi rfl)<|zTk 10 rfl (yf (j := (rG s x).toNat) underlying35 sizeOf42 rfl rfl (w5 h1).symm ⟨_, .t2⟩ (owns_len hids) (by omega))<|zTk 11 rfl (Gv.load1G (c := _) isAgg42 rfl ⟨_, .t2⟩ (owns_drop hw0 (row_get h1 h2)))<|zTk 12 rfl (zMi rfl)<|zTk 13 rfl (yf (j := (bG s x).toNat) underlying42 sizeOf2 rfl rfl (w5 h3).symm ⟨_, .head⟩ (cI_len _) (by omega))<|zTk 14 rfl (yt (j := (bG s x).toNat) isAgg2 rfl ⟨_, .head⟩ (vi_get h4 h3))<|zOn 15 rfl<|z2 (yf (j := x.dst.toNat) underlying42 sizeOf2 rfl rfl (w5 d0).symm ⟨_, .head⟩ ((cI_len _).trans hl1) (by omega))<|z6<|y8<|ya (i := 16) rfl (by kernel_rfl) (by kernel_rfl)<|yu (j := x.dst.toNat) sizeOf2 rfl rfl .t3 (by first | omega | (simp; omega))<|z6<|yd (by kernel_rfl)<|yw (GStep.bagIn (X' := bagA ids s.arrays) .head (hX1.symm) .t6)<|yw (za (zb .t4))<|yw (za (zb .t4))<|yw (za (zb .t4))<|yw (za (zb .t3))<|yv ?_
                   exact ⟨jo, jt, ids, by rw [hI]; exact hids, rfl, by rw [hI]; rfl⟩
                 ·have n13 : ¬ x.op = 13 := fun e => c13 ((word_op hop 13 (by decide) rfl).2 e)
                  refine zSr<|z2 (yy rfl rfl)<|z2 (zAb rfl)<|z6<|zr rfl (fun c14=>?_) (fun c14=>?_)
                  ·have e : x.op = 14 := (word_op hop 14 (by decide) rfl).1 c14
                   obtain ⟨_, _, rfl⟩ : a = aG s x ∧ p = pG s x ∧ r = rG s x := by have := hu (by rw [hargc, e]; decide); simpa using this
                   obtain ⟨rfl, _⟩ : b = bG s x ∧ q = qG s x := by have := hw (by rw [hargc, e]; decide); simpa using this
                   obtain ⟨q2, r2⟩ := hx.a2 (by rw [hargc, e]; decide)
                   have hal : 2 < x.args.length := by rw [hargc, e]; decide
                   refine zd<|zSr<|z2 (zMp rfl)<|z2 (zMi rfl)<|z2 (zMi rfl)<|y1 rfl (zm (.l (.l (.l (.l (.l (.l (.l (.rest _))))))))) (wplace_spec f iw ja jb jc jo jt ids s (rG s x) (bG s x) hids) ?_
                   rintro r286 O286 ⟨rfl, rfl⟩
                   refine z2 (yl rfl)<|z6<|zz rfl (fun cp=>?_) (fun cp=>?_)
                   ·have cp : ¬ placeG s (rG s x) (bG s x) = true := by simpa using cp
                    have hI : instG s x = stopG s 2 := by rw [inst_do hc]; unfold doG; simp [e, cp]
                    refine zSr<|z2 (zMp rfl)<|y1 rfl (zm (.l (.l (.l (.l (.l (.l (.l (.rest _))))))))) (wend_spec f iw ja jb jc jo jt ids s 2) ?_
                    rintro r289 O289 ⟨rfl, rfl⟩
                    refine z6<|zg<|yv ?_
                    exact ⟨jo, jt, ids, by rw [hI]; exact hids, rfl, by rw [hI]; rfl⟩
                   ·have cp : placeG s (rG s x) (bG s x) = true := by simpa using cp
                    obtain ⟨h1, h2, h3, h4⟩ := place_iff.1 cp
                    obtain ⟨w, hw0⟩ := get_id hids (j := (rG s x).toNat) (by omega)
                    obtain ⟨X, hX1, hX2⟩ := zip_out rowA ids s.arrays _ hw0 (row_get h1 h2)
                    have hI : instG s x = { s with arrays := s.arrays.set (rG s x).toNat ((rowG s (rG s x)).set (bG s x).toNat (vi s.ints (ar2 x))) } := by rw [inst_do hc]; unfold doG; simp [e, cp]
                    refine yc (GStep.bagOut (i := w) (o := .grow 1 2 (cI (rowG s (rG s x)))) (X' := X) (hX1) .t6)<|zh<|zu (fun j => Nat.beq j 18) (by kernel_rfl) rfl (zm (.l (.r (.r (.l (.l (.r (.rest _))))))))<|zTk 0 rfl (zMp rfl)<|zTk 1 rfl (zn rfl)<|zTk 2 rfl (ze underlying100 rfl sizeOf35 (by decide) rfl rfl)<|zTk 3 rfl (zl (c := .own _ _) isAgg35 rfl ⟨_, .head⟩ rfl)<|zTk 4 rfl (zMi rfl)<|zTk 5 rfl (yf (j := (rG s x).toNat) underlying35 sizeOf42 rfl rfl (w5 h1).symm ⟨_, .t2⟩ (owns_len hids) (by omega))<|zTk 6 rfl (Gv.load1G (c := _) isAgg42 rfl ⟨_, .t2⟩ (owns_drop hw0 (row_get h1 h2)))<|zTk 7 rfl (zMi rfl)<|zTk 8 rfl (zMp rfl)<|zTk 9 rfl (zn rfl)<|zTk 10 rfl (ze underlying100 rfl sizeOf42 (by decide) rfl rfl)<|zTk 11 rfl (zl (c := .own _ _) isAgg42 rfl ⟨_, .head⟩ rfl)<|zTk 12 rfl (zMf rfl)<|zTk 13 rfl (zIM 2 underlying23 sizeOf3 rfl rfl rfl (get0 hal))<|zTk 14 rfl (zLi isAgg3 rfl)<|zTk 15 rfl (yf (j := (ar2 x).toNat) underlying42 sizeOf2 rfl rfl (w5 r2).symm ⟨_, .t1⟩ ((cI_len _).trans hl1) (by omega))<|zTk 16 rfl (yt (j := (ar2 x).toNat) isAgg2 rfl ⟨_, .t1⟩ (vi_get (by omega) r2))<|zOn 17 rfl<|z2 (yf (j := (bG s x).toNat) underlying42 sizeOf2 rfl rfl (w5 h3).symm ⟨_, .head⟩ (cI_len _) (by omega))<|z6<|y8<|ya (i := 18) rfl (by kernel_rfl) (by kernel_rfl)<|yu (j := (bG s x).toNat) sizeOf2 rfl rfl .t3 (by first | omega | (simp; omega))<|z6<|yd (by kernel_rfl)<|yw (GStep.bagIn (X' := bagA ids (s.arrays.set (rG s x).toNat ((rowG s (rG s x)).set (bG s x).toNat (vi s.ints (ar2 x))))) .t3 ((by have := hX2 w ((rowG s (rG s x)).set (bG s x).toNat (vi s.ints (ar2 x))); rw [set_id hw0] at this; exact this)) .t6)<|yw (za (zb .t2))<|yw (za (zb .t4))<|yw (za (zb .t4))<|yw (za (zb .t4))<|yw (za (zb .t4))<|yv ?_
                    exact ⟨jo, jt, ids, by rw [hI]; simpa using hids, rfl, by rw [hI]; unfold wO wR wCe; rw [owns_set (row_get h1 h2) (List.length_set ..)]; simp⟩
                  ·have n14 : ¬ x.op = 14 := fun e => c14 ((word_op hop 14 (by decide) rfl).2 e)
                   refine zSr<|z2 (yy rfl rfl)<|z2 (zAb rfl)<|z6<|zr rfl (fun c15=>?_) (fun c15=>?_)
                   ·have e : x.op = 15 := (word_op hop 15 (by decide) rfl).1 c15
                    obtain ⟨d1, d0⟩ := hx.made (by rw [e]; decide)
                    obtain ⟨rfl, _, _⟩ : a = aG s x ∧ p = pG s x ∧ r = rG s x := by have := hu (by rw [hargc, e]; decide); simpa using this
                    refine zi<|zd<|yp (γ := Bool) [0, 7, 12] (fun z => [(333, .bool z)]) (fun z => wO f iw ja jb jc jo jt ids s) (fun z => z = decide (aG s x < 0 ∨ 64 < aG s x)) ?_ (fun _ _ h => h) ?_
                    ·refine zRg<|z2 (zMi rfl)<|z2 (yb rfl rfl)<|z2 (zMb rfl)<|zt (s := 336) rfl (fun cn=>?_) (fun cn=>?_)
                     ·have cn2 : aG s x < 0 := by simpa using cn
                      refine z7 rfl rfl cn<|z7 rfl rfl cn<|z2 (zPt rfl cn rfl)<|z2 (zAb rfl)<|z6 ?_
                      exact ⟨_, zR3, zR1, zLe, by rw [w3 (.inl cn2)]⟩
                     ·have cn2 : ¬ aG s x < 0 := by simpa using cn
                      refine z8 rfl rfl cn<|z2 (zMi rfl)<|z8 rfl rfl cn<|z2 (q4 rfl rfl)<|z2 (zPf rfl cn rfl)<|z2 (zAb rfl)<|z6 ?_
                      exact ⟨_, zR3, zR1, zLe, by rw [decide_eq_decide]; exact ⟨fun h => .inr h, fun h => h.resolve_left cn2⟩⟩
                    ·rintro z hz4
                     refine zz rfl (fun cz4=>?_) (fun cz4=>?_)
                     ·have cz4 : aG s x < 0 ∨ 64 < aG s x := of_decide_eq_true (hz4.symm.trans cz4)
                      have hI : instG s x = stopG s 2 := by rw [inst_do hc]; unfold doG; simp [e, cz4]
                      refine zRg<|z2 (zMp rfl)<|y1 rfl (zm (.l (.l (.l (.l (.l (.l (.l (.rest _))))))))) (wend_spec f iw ja jb jc jo jt ids s 2) ?_
                      rintro r341 O341 ⟨rfl, rfl⟩
                      refine z6<|yv ?_
                      exact ⟨jo, jt, ids, by rw [hI]; exact hids, rfl, by rw [hI]; rfl⟩
                     ·have cz4 : ¬ (aG s x < 0 ∨ 64 < aG s x) := of_decide_eq_false (hz4.symm.trans cz4)
                      refine zSr<|z2 (zMp rfl)<|z2 (zn rfl)<|z2 (ze underlying100 rfl sizeOf35 (by decide) rfl rfl)<|z2 (zl (c := .own _ _) isAgg35 rfl ⟨_, .head⟩ rfl)<|z2 (Gv.lenO underlying35 rfl)<|z2 (q6 rfl rfl)<|z2 (zAb rfl)<|z6<|zr rfl (fun c32=>?_) (fun c32=>?_)
                      ·have c32 : 32 ≤ s.arrays.length := by omega
                       have hI : instG s x = stopG s 3 := by rw [inst_do hc]; unfold doG; rw [e, if_neg (by decide), if_neg (by decide), if_neg (by decide), if_neg (by decide), if_neg (by decide), if_neg (by decide), if_neg (by decide), if_neg (by decide), if_neg (by decide), if_neg (by decide), if_neg (by decide), if_neg (by decide), if_neg (by decide), if_neg (by decide), if_neg (by decide), if_pos rfl, if_neg cz4, if_pos c32]
                       refine zRg<|z2 (zMp rfl)<|y1 rfl (zm (.l (.l (.l (.l (.l (.l (.l (.rest _))))))))) (wend_spec f iw ja jb jc jo jt ids s 3) ?_
                       rintro r350 O350 ⟨rfl, rfl⟩
                       refine z6<|yv ?_
                       exact ⟨jo, jt, ids, by rw [hI]; exact hids, rfl, by rw [hI]; rfl⟩
                      ·have c32 : ¬ 32 ≤ s.arrays.length := by omega
                       have hI : instG s x = stA { s with arrays := s.arrays ++ [List.replicate (aG s x).toNat 0] } x.dst s.arrays.length := by rw [inst_do hc]; unfold doG; rw [e, if_neg (by decide), if_neg (by decide), if_neg (by decide), if_neg (by decide), if_neg (by decide), if_neg (by decide), if_neg (by decide), if_neg (by decide), if_neg (by decide), if_neg (by decide), if_neg (by decide), if_neg (by decide), if_neg (by decide), if_neg (by decide), if_neg (by decide), if_pos rfl, if_neg cz4, if_neg c32]
                       refine zd<|zu (fun j => Nat.beq j 11) (by kernel_rfl) rfl (zm (.r (.rest _)))<|zTk 0 rfl (zMp rfl)<|zTk 1 rfl (zMp rfl)<|zTk 2 rfl (zn rfl)<|zTk 3 rfl (ze underlying100 rfl sizeOf35 (by decide) rfl rfl)<|zTk 4 rfl (zl (c := .own _ _) isAgg35 rfl ⟨_, .head⟩ rfl)<|zTk 5 rfl (zMi rfl)<|zOn 6 rfl<|qk (m := (aG s x).toNat) underlying42 type2 rfl rfl rfl rfl rfl (by omega) (by omega) (by show (8 : Int) * _ ≤ _; omega) (by omega)<|fun i316 => z6<|zOn 7 rfl<|zw (rows := [[_]]) ps35_1 rfl rfl rfl rfl rfl<|z6<|zOn 8 rfl<|yg (k := 1) underlying35 type42 rfl rfl rfl rfl rfl (fun _ => .t4) (by rw [owns_len hids]; omega) (by decide) rfl (by show (_ + 1) * 24 ≤ _; omega) (by show _ + 1 ≤ _; omega)<|fun i318 => z6<|yr (i := 9) rfl (by kernel_rfl) (by kernel_rfl) (by kernel_rfl) (by kernel_rfl) (zn rfl)<|zTk 10 rfl (ze underlying100 rfl sizeOf35 (by decide) rfl rfl)<|y8<|ya (i := 11) rfl (by kernel_rfl) (by kernel_rfl)<|yn (l := [_]) (new := [_, _, _, _, _, _, _, _, _, _, _, _, _, _, _, _, _, _, _, _, _, _, _]) sizeOf35 rfl rfl rfl rfl rfl rfl .head rfl rfl<|z6<|yd (by kernel_rfl)<|yc (GStep.bagIn (X' := bagA (ids ++ [i316]) (s.arrays ++ [List.replicate (aG s x).toNat 0])) .t1 (bag_push i316 _ hids) .t6)<|zu (fun j => Nat.beq j 12) (by kernel_rfl) rfl (zm (.r (.rest _)))<|zTk 0 rfl (zMp rfl)<|zTk 1 rfl (zn rfl)<|zTk 2 rfl (ze underlying100 rfl sizeOf23 (by decide) rfl rfl)<|zTk 3 rfl (zl (c := .own _ _) isAgg23 rfl ⟨_, .head⟩ rfl)<|zTk 4 rfl (zMi rfl)<|zTk 5 rfl (zMp rfl)<|zTk 6 rfl (zn rfl)<|zTk 7 rfl (ze underlying100 rfl sizeOf35 (by decide) rfl rfl)<|zTk 8 rfl (zl (c := .own _ _) isAgg35 rfl ⟨_, .head⟩ rfl)<|zTk 9 rfl (Gv.lenO underlying35 rfl)<|zTk 10 rfl (Gv.sub rfl rfl (by unfold I64; simp only [List.length_cons, List.length_nil]; omega))<|zOn 11 rfl<|z2 (yf (j := x.dst.toNat) underlying23 sizeOf3 rfl rfl (w5 d0).symm ⟨_, .t2⟩ ((cI_len _).trans hl3) (by omega)) ?_
                       refine z6<|y8<|ya (i := 12) rfl (by kernel_rfl) (by kernel_rfl)<|yu (j := x.dst.toNat) sizeOf3 rfl rfl .t3 (by first | omega | (simp; omega))<|z6<|yd (by kernel_rfl)<|yw (za (zb .t5))<|yw (za (zb .t5))<|yw (za (zb .t5))<|yw (za (zb .t5))<|yw (za (zb .t5))<|yw (za (zb .t5))<|yv ?_
                       exact ⟨i318, jt, ids ++ [i316], by rw [hI]; simp [stA, hids], rfl, by rw [hI]; exact wO_new f iw ja jb jc i318 jt hids i316 (aG s x).toNat x.dst _ (by simp only [List.length_cons, List.length_nil]; omega)⟩
                   ·have n15 : ¬ x.op = 15 := fun e => c15 ((word_op hop 15 (by decide) rfl).2 e)
                    refine zSr<|z2 (yy rfl rfl)<|z2 (zAb rfl)<|z6<|zr rfl (fun c16=>?_) (fun c16=>?_)
                    ·have e : x.op = 16 := (word_op hop 16 (by decide) rfl).1 c16
                     obtain ⟨d1, d0⟩ := hx.made (by rw [e]; decide)
                     have hI : instG s x = stA s x.dst (-1) := by rw [inst_do hc]; unfold doG; simp [e]
                     refine zRg<|z2 (zMp rfl)<|z2 (zn rfl)<|z2 (ze underlying100 rfl sizeOf23 (by decide) rfl rfl)<|z2 (zl (c := .own _ _) isAgg23 rfl ⟨_, .head⟩ rfl)<|z2 (zMi rfl)<|z2 (yf (j := x.dst.toNat) underlying23 sizeOf3 rfl rfl (w5 d0).symm ⟨_, .t3⟩ ((cI_len _).trans hl3) (by omega))<|yu (j := x.dst.toNat) sizeOf3 rfl rfl .t3 (by first | omega | (simp; omega))<|z6<|yv ?_
                     exact ⟨jo, jt, ids, by rw [hI]; exact hids, rfl, by rw [hI]; rfl⟩
                    ·have n16 : ¬ x.op = 16 := fun e => c16 ((word_op hop 16 (by decide) rfl).2 e)
                     refine zSr<|z2 (yy rfl rfl)<|z2 (zAb rfl)<|z6<|zr rfl (fun c17=>?_) (fun c17=>?_)
                     ·have e : x.op = 17 := (word_op hop 17 (by decide) rfl).1 c17
                      obtain ⟨rfl, _, _⟩ : a = aG s x ∧ p = pG s x ∧ r = rG s x := by have := hu (by rw [hargc, e]; decide); simpa using this
                      refine zd<|zSr<|z2 (zMp rfl)<|z2 (zn rfl)<|z2 (ze underlying100 rfl sizeOf45 (by decide) rfl rfl)<|z2 (ze underlying45 rfl sizeOf42 (by decide) rfl rfl)<|z2 (zl (c := .own _ _) isAgg42 rfl ⟨_, .head⟩ rfl)<|z2 (Gv.lenO underlying42 rfl)<|z2 (q6 rfl rfl)<|z6<|zr rfl (fun ct=>?_) (fun ct=>?_)
                      ·have ct : 4096 ≤ s.trace.length := by omega
                       have hI : instG s x = stopG s 3 := by rw [inst_do hc]; unfold doG; simp [e, ct]
                       refine zSr<|z2 (zMp rfl)<|y1 rfl (zm (.l (.l (.l (.l (.l (.l (.l (.rest _))))))))) (wend_spec f iw ja jb jc jo jt ids s 3) ?_
                       rintro r369 O369 ⟨rfl, rfl⟩
                       refine z6<|zg<|yv ?_
                       exact ⟨jo, jt, ids, by rw [hI]; exact hids, rfl, by rw [hI]; rfl⟩
                      ·have ct : ¬ 4096 ≤ s.trace.length := by omega
                       have hI : instG s x = { s with trace := s.trace ++ [aG s x] } := by rw [inst_do hc]; unfold doG; simp [e, ct]
                       refine zh<|zRg<|z2 (zMp rfl)<|z2 (zMp rfl)<|z2 (zn rfl)<|z2 (ze underlying100 rfl sizeOf45 (by decide) rfl rfl)<|z2 (ze underlying45 rfl sizeOf42 (by decide) rfl rfl)<|z2 (zl (c := .own _ _) isAgg42 rfl ⟨_, .head⟩ rfl)<|z2 (zMi rfl)<|zw (rows := [[_]]) ps42_1 rfl rfl rfl rfl rfl<|yg (k := 1) underlying42 type2 rfl rfl rfl rfl rfl (fun _ => .t5) (by rw [cI_len]; omega) (by decide) rfl (by show (_ + 1) * 8 ≤ _; omega) (by show _ + 1 ≤ _; omega)<|fun i378 => z2 (zn rfl)<|z2 (ze underlying100 rfl sizeOf45 (by decide) rfl rfl)<|z2 (ze underlying45 rfl sizeOf42 (by decide) rfl rfl)<|yn (l := [_]) (new := [_, _, _, _, _, _, _, _, _, _, _, _, _, _, _, _, _, _, _, _, _, _, _]) sizeOf42 rfl rfl rfl rfl rfl rfl .head rfl rfl<|z6<|yv ?_
                       exact ⟨jo, i378, ids, by rw [hI]; exact hids, rfl, by rw [hI]; exact wO_out f iw ja jb jc jo i378 _⟩
                     ·exfalso
                      have n17 : ¬ x.op = 17 := fun e => c17 ((word_op hop 17 (by decide) rfl).2 e)
                      omega
end Go.Proofs.YtiojekbkamegdaaGreatDoor
