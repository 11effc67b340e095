/- The numbered program ends just where the program does. Plain law. No conditions. -/
import Derived.Test.YtiojekbkamegdaaGreatDoorLf
import Derived.Test.YtiojekbkamegdaaGreatDoorLg
import Derived.Test.YtiojekbkamegdaaGreatDoorLq
import Derived.Test.YtiojekbkamegdaaGreatDoorLi
import Derived.Test.YtiojekbkamegdaaGreatDoorLo
import Derived.Test.YtiojekbkamegdaaGreatDoorLp
import Derived.Test.YtiojekbkamegdaaGreatDoorLh
set_option linter.unusedVariables false
set_option linter.unusedSimpArgs false
set_option linter.unusedSectionVars false
namespace Go.Proofs.YtiojekbkamegdaaGreatDoor
open Go.Proofs.Tryz
open Go.Proofs
def Imp (x y : AV) : Prop := ∀ I v, RepV I x v → RepV I y v
def ImpL (xs ys : List AV) : Prop := ∀ I vs, RepL I xs vs → RepL I ys vs
theorem Imp.refl (x : AV) : Imp x x := fun _ _ h => h
theorem Imp.nil (k : Nat) : Imp (.raw (.slice none 0 0)) (.fro k []) := fun _ _ h => ⟨none, 0, 0, h, rfl, Nat.le_refl _, fun _ => rfl, trivial⟩
theorem ImpL.nil : ImpL [] [] := fun _ _ h => h
theorem ImpL.cons {x y : AV} {xs ys : List AV} (h : Imp x y) (hs : ImpL xs ys) : ImpL (x :: xs) (y :: ys) := fun I _ ⟨v, us, e, h1, h2⟩ => ⟨v, us, e, h I v h1, hs I us h2⟩
theorem Imp.agg {xs ys : List AV} (h : ImpL xs ys) : Imp (.agg xs) (.agg ys) := fun I _ ⟨vs, e, h1⟩ => ⟨vs, e, h I vs h1⟩
end Go.Proofs.YtiojekbkamegdaaGreatDoor
namespace Go.Proofs.YtiojekbkamegdaaGreatDoor
open Go.Proofs.Tryz
open Go.Proofs Go.Lib Go.Shelf Go.RowKit
variable {E : World}
set_option maxRecDepth 20000
def ownsA (ids : List Nat) (rs : List (List Int)) : List AV := List.zipWith (fun i r => AV.own i r.length) ids rs
def rowA (i : Nat) (r : List Int) : Nat × AObj := (i, .grow 1 2 (cI r))
def bagA (ids : List Nat) (rs : List (List Int)) : OL := List.zipWith rowA ids rs
theorem owns_len {ids : List Nat} {rs : List (List Int)} (h : ids.length = rs.length) : (ownsA ids rs).length = rs.length := by unfold ownsA; simp [h]
theorem owns_drop : ∀ {ids : List Nat} {rs : List (List Int)} {j i : Nat} {r : List Int}, ids[j]? = some i → rs[j]? = some r → (ownsA ids rs).drop j = .own i r.length :: (ownsA ids rs).drop (j + 1)
 | [], _, _, _, _, h, _ => by simp at h
 | _ :: _, [], _, _, _, _, h => by simp at h
 | i :: ids, r :: rs, 0, _, _, h1, h2 => by
  simp at h1 h2
  subst h1 h2; rfl
 | _ :: ids, _ :: rs, j + 1, i, r, h1, h2 => owns_drop (ids := ids) (rs := rs) (by simpa using h1) (by simpa using h2)
theorem get_id {ids : List Nat} {rs : List (List Int)} (h : ids.length = rs.length) {j : Nat} (hj : j < rs.length) : ∃ i, ids[j]? = some i := ⟨_, qq (by omega)⟩
theorem get0 {l : List Int} {k : Nat} (h : k < l.length) : l[k]? = some ((l[k]?).getD 0) := by
 rw [qq h]; rfl
abbrev wCe (f : PFunc) (ja jb jc jo jt : Nat) (s : GS) : List AV := encF f ++ [.own ja f.vars.length, .own jb f.vars.length, .own jc f.vars.length, .own jo s.arrays.length, .int .i64 s.blk, .int .i64 s.pc, .int .i64 s.en, .int .i64 s.val, .int .i64 s.tr, .own jt s.trace.length, .int .i64 s.st, .int .i64 (s.ck 0), .int .i64 (s.ck 1), .int .i64 (s.ck 2), .int .i64 (s.ck 3), .int .i64 (s.ck 4), .int .i64 (s.ck 5), .int .i64 (s.ck 6), .int .i64 (s.ck 7), .bool s.ended]
abbrev wR (ja jb jc jo jt : Nat) (ids : List Nat) (s : GS) : OL := [(ja, .grow 1 2 (cI s.ints)), (jb, .grow 1 4 (cB s.bools)), (jc, .grow 1 3 (cI s.arrs)), (jo, .grow 1 42 (ownsA ids s.arrays)), (jt, .grow 1 2 (cI s.trace)), (0, bag (bagA ids s.arrays))]
abbrev wO (f : PFunc) (iw ja jb jc jo jt : Nat) (ids : List Nat) (s : GS) : OL := (iw, .cells 100 (wCe f ja jb jc jo jt s)) :: wR ja jb jc jo jt ids s
theorem wend_spec (f : PFunc) (iw ja jb jc jo jt : Nat) (ids : List Nat) (s : GS) (e : Int) : ACall prog E 105 [.po iw 0, .int .i64 e] (wO f iw ja jb jc jo jt ids s) (fun y O => y = .tup [] ∧ O = wO f iw ja jb jc jo jt ids (stopG s e)) := by
 refine zp func105 Z (by decide) Z<|zRg<|zVzMp Z<|zVzMp Z<|zVzMi Z<|zVGvnilCheckO Z<|z8 (ze j8 Z jn (by decide) Z Z)<|z8 (ze ju Z X7 (by decide) Z Z)<|yp (l := [_]) (new := [_, _, _, _, _, _, _, _, _, _, _, _, _, _, _, _, _, _, _, _, _, _, _]) X7 Z Z Z Z Z Z .head Z Z<|zVGvnilCheckO Z<|z8 (ze j8 Z Z5 (by decide) Z Z)<|yp (l := [_]) (new := [_, _, _, _, _, _, _, _, _, _, _, _, _, _, _, _, _, _, _, _, _, _, _]) Z5 Z Z Z Z Z Z .head Z Z<|z2<|yv ?_
 exact ⟨rfl, rfl⟩
theorem wplace_spec (f : PFunc) (iw ja jb jc jo jt : Nat) (ids : List Nat) (s : GS) (a i : Int) (hids : ids.length = s.arrays.length) : ACall prog E 163 [.po iw 0, .int .i64 a, .int .i64 i] (wO f iw ja jb jc jo jt ids s) (fun y O => y = .bool (placeG s a i) ∧ O = wO f iw ja jb jc jo jt ids s) := by
 refine zp func163 Z (by decide) Z<|zSr<|zVzAb Z<|z2<|zSr<|zVzMi Z<|z8 (qd Z Z)<|zVzMb Z<|zq (s := 9) Z (fun c1=>?_) (fun c1=>?_)
 ·have h1 : 0 ≤ a := by simpa using c1
  refine z7 Z Z c1<|zVzMi Z<|z7 Z Z c1<|zVzMp Z<|z7 Z Z c1<|zVGvnilCheckO Z<|z7 Z Z c1<|z8 (ze j8 Z Y2 (by decide) Z Z)<|z7 Z Z c1<|z8 (zl (c := .own _ _) Ym Z ⟨_, .head⟩ Z)<|z7 Z Z c1<|z8 (qo Za Z)<|z7 Z Z c1<|zVGvlss Z Z<|zVzPt Z c1 Z<|zVzMb Z<|zq (s := 18) Z (fun c2=>?_) (fun c2=>?_)
  ·have h2 : a < s.arrays.length := by simpa using c2
   refine z7 Z Z c2<|zVzMi Z<|z7 Z Z c2<|z8 (qd Z Z)<|zVzPt Z c2 Z<|zVzMb Z<|zq (s := 22) Z (fun c3=>?_) (fun c3=>?_)
   ·have h3 : 0 ≤ i := by simpa using c3
    obtain ⟨q, hq⟩ := get_id hids (j := a.toNat) (by omega)
    refine z7 Z Z c3<|zVzMi Z<|z7 Z Z c3<|zVzMp Z<|z7 Z Z c3<|zVGvnilCheckO Z<|z7 Z Z c3<|z8 (ze j8 Z Y2 (by decide) Z Z)<|z7 Z Z c3<|z8 (zl (c := .own _ _) Ym Z ⟨_, .head⟩ Z)<|z7 Z Z c3<|zVzMi Z<|z7 Z Z c3<|z8 (yg (j := a.toNat) Za Zc Z Z (by omega) ⟨_, .t4⟩ (owns_len hids) (by omega))<|z7 Z Z c3<|z8 (Gv.load1G (c := _) Zm Z ⟨_, .t4⟩ (owns_drop hq (row_get h1 h2)))<|z7 Z Z c3<|z8 (qo jp Z)<|z7 Z Z c3<|zVGvlss Z Z<|zVzPt Z c3 Z<|zVzAb Z<|z2<|zj<|zk (x := .bool _) Z ?_
    exact ⟨congrArg AV.bool (by unfold placeG; simp [h1, h2, h3]), rfl⟩
   ·have h3 : ¬ 0 ≤ i := by simpa using c3
    refine z6 Z Z c3<|z6 Z Z c3<|z6 Z Z c3<|z6 Z Z c3<|z6 Z Z c3<|z6 Z Z c3<|z6 Z Z c3<|z6 Z Z c3<|z6 Z Z c3<|z6 Z Z c3<|zVzPf Z c3 Z<|zVzAb Z<|z2<|zj<|zk (x := .bool _) Z ?_
    exact ⟨congrArg AV.bool (by unfold placeG; simp [h1, h2, h3]), rfl⟩
  ·have h2 : ¬ a < s.arrays.length := by simpa using c2
   refine z6 Z Z c2<|z6 Z Z c2<|zVzPf Z c2 Z<|zVzMb Z<|z6 Z Z Z<|z6 Z Z Z<|z6 Z Z Z<|z6 Z Z Z<|z6 Z Z Z<|z6 Z Z Z<|z6 Z Z Z<|z6 Z Z Z<|z6 Z Z Z<|z6 Z Z Z<|zVzPf Z Z Z<|zVzAb Z<|z2<|zj<|zk (x := .bool _) Z ?_
   exact ⟨congrArg AV.bool (by unfold placeG; simp [h1, h2]), rfl⟩
 ·have h1 : ¬ 0 ≤ a := by simpa using c1
  refine z6 Z Z c1<|z6 Z Z c1<|z6 Z Z c1<|z6 Z Z c1<|z6 Z Z c1<|z6 Z Z c1<|z6 Z Z c1<|zVzPf Z c1 Z<|zVzMb Z<|z6 Z Z Z<|z6 Z Z Z<|zVzPf Z Z Z<|zVzMb Z<|z6 Z Z Z<|z6 Z Z Z<|z6 Z Z Z<|z6 Z Z Z<|z6 Z Z Z<|z6 Z Z Z<|z6 Z Z Z<|z6 Z Z Z<|z6 Z Z Z<|z6 Z Z Z<|zVzPf Z Z Z<|zVzAb Z<|z2<|zj<|zk (x := .bool _) Z ?_
  exact ⟨congrArg AV.bool (by unfold placeG; simp [h1]), rfl⟩
theorem words_one : ∀ j : Nat, j < 27 → ∀ k : Nat, k < 27 → decide ((kRow (j : Int)).1 = (kRow (k : Int)).1) = decide (j = k) := by decide
theorem word_op {op : Int} (h : 0 ≤ op ∧ op ≤ 26) (k : Nat) (hk : k < 27) {b : ByteArray} (hb : (kRow (k : Int)).1 = b) : ((kRow op).1 = b) ↔ op = (k : Int) := by
 subst hb
 obtain ⟨j, rfl⟩ : ∃ j : Nat, op = (j : Int) := ⟨op.toNat, by omega⟩
 have := words_one j (by omega) k hk
 rw [decide_eq_decide] at this
 rw [this]; omega
def arg_ok (f : PFunc) (op : Int) (l : List Int) : Prop := 18 ≤ op ∧ op ≤ 24 ∧ 0 < l.length ∧ ∀ v ∈ l, v < f.vars.length ∧ 0 ≤ v
theorem arg_get {f : PFunc} {op : Int} {l : List Int} (h : arg_ok f op l) {k : Nat} (hk : k < l.length) : (l[k]?).getD 0 < f.vars.length ∧ 0 ≤ (l[k]?).getD 0 := by
 rw [qq hk]; exact h.2.2.2 _ (qu hk)
theorem wpasses_spec (f : PFunc) (iw ja jb jc jo jt : Nat) (ids : List Nat) (s : GS) (op : Int) (l : List Int) (hids : ids.length = s.arrays.length) (hg : GInv f s) (ho : arg_ok f op l) : ACall prog E 160 [.po iw 0, .str (kRow op).1, .fro 1 (l.map encI)] (wO f iw ja jb jc jo jt ids s) (fun y O => y = .bool (passG s op l) ∧ O = wO f iw ja jb jc jo jt ids s) := by
 have hop : 0 ≤ op ∧ op ≤ 26 := by have := ho.1; have := ho.2.1; omega
 obtain ⟨q0, r0⟩ := arg_get ho ho.2.2.1
 obtain ⟨v0, hv0⟩ : ∃ v, (l[0]?).getD 0 = v := ⟨_, rfl⟩
 rw [hv0] at q0 r0
 have hl1 := hg.li
 have hl3 := hg.la
 have ha64 : is64 (vi s.ints v0) := vi_64 hg.i64
 refine zp func160 Z (by decide) Z<|zSr<|zVzAb Z<|z2<|zc<|zr (fun j => false) (by kernel_rfl) Z (zm (.r (.r (.rest _))))<|zTk 0 Z (zMp Z)<|zTk 1 Z (y4 Z)<|zTk 2 Z (ze j8 Z Zc (by decide) Z Z)<|zTk 3 Z (zl (c := .own _ _) Zm Z ⟨_, .head⟩ Z)<|zTk 4 Z (zMf Z)<|zTk 5 Z (zIM 0 j6 j7 Z Z Z ((get0 ho.2.2.1).trans (by rw [hv0]))) ?_
 refine zTk 6 Z (zLi j9 Z)<|zTk 7 Z (yg (j := v0.toNat) jp Z9 Z Z (by omega) ⟨_, .t1⟩ ((cI_len _).trans hl1) (by omega))<|zTk 8 Z (yr (j := v0.toNat) Yd Z ⟨_, .t1⟩ (vi_get (by omega) r0))<|zTk 9 Z (zAi Z)<|zDn<|zSr<|zVzAi Z<|z2<|zc<|zSr<|zVzMf Z<|zVGvlenM j6 Z<|zVGvgtr Z Z<|z2<|yn (γ := Int) [0, 1, 2, 7] (fun u => [(8, .int .i64 u)]) (fun u => wO f iw ja jb jc jo jt ids s) (fun u => u = bIf l s.ints) ?_ (fun _ _ h => h) ?_
 ·refine zo Z (fun c=>?_) (fun c=>?_)
  ·have c : 1 < l.length := by omega
   obtain ⟨q1, r1⟩ := arg_get ho c
   obtain ⟨v1, hv1⟩ : ∃ v, (l[1]?).getD 0 = v := ⟨_, rfl⟩
   rw [hv1] at q1 r1
   refine zr (fun j => false) (by kernel_rfl) Z (zm (.r (.r (.rest _))))<|zTk 0 Z (zMp Z)<|zTk 1 Z (y4 Z)<|zTk 2 Z (ze j8 Z Zc (by decide) Z Z)<|zTk 3 Z (zl (c := .own _ _) Zm Z ⟨_, .head⟩ Z)<|zTk 4 Z (zMf Z)<|zTk 5 Z (zIM 1 j6 j7 Z Z Z ((get0 c).trans (by rw [hv1]))) ?_
   refine zTk 6 Z (zLi j9 Z)<|zTk 7 Z (yg (j := v1.toNat) jp Z9 Z Z (by omega) ⟨_, .t1⟩ ((cI_len _).trans hl1) (by omega))<|zTk 8 Z (yr (j := v1.toNat) Yd Z ⟨_, .t1⟩ (vi_get (by omega) r1))<|zTk 9 Z (zAi Z)<|zDn ?_
   exact ⟨_, zR4, zR1, zLe, by unfold bIf; rw [if_pos c, hv1]⟩
  ·have c : ¬ 1 < l.length := by omega
   refine zf ?_
   exact ⟨_, zR4, zR1, zLe, by unfold bIf; rw [if_neg c]⟩
 ·rintro u hu
  have hb64 : is64 u := by
   rw [hu]; unfold bIf; split
   ·exact vi_64 hg.i64
   ·exact ⟨by decide, by decide⟩
  refine zc<|zSr<|z8 (yw (v := .str _) Z)<|z2<|zi<|zSr<|z8 (yy Z Z)<|zVzAb Z<|z2<|zo Z (fun c18=>?_) (fun c18=>?_)
  ·have e : op = 18 := (word_op hop 18 (by decide) rfl).1 c18
   refine zc<|zr (fun j => false) (by kernel_rfl) Z (zm (.rest _))<|zTk 0 Z (zMp Z)<|zTk 1 Z (zMp Z)<|zTk 2 Z (y4 Z)<|zTk 3 Z (ze j8 Z jd (by decide) Z Z)<|zTk 5 Z (zMf Z)<|zTk 6 Z (zIM 0 j6 j7 Z Z Z ((get0 ho.2.2.1).trans (by rw [hv0]))) ?_
   refine zTk 7 Z (zLi j9 Z)<|zTk 10 Z (zMi Z)<|zOn 4 Z<|z8 (zl (c := .own _ _) jk Z ⟨_, .head⟩ Z)<|z2<|zOn 8 Z<|z8 (yg (j := v0.toNat) j6 j7 Z Z (by omega) ⟨_, .t3⟩ ((cI_len _).trans hl3) (by omega))<|z2<|zOn 9 Z<|z8 (yr (j := v0.toNat) j9 Z ⟨_, .t3⟩ (vi_get (by omega) r0))<|z2<|zOn 11 Z<|zy Z (zm (.l (.l (.l (.l (.l (.l (.l (.rest _))))))))) (wplace_spec f iw ja jb jc jo jt ids s (vi s.arrs v0) u hids) ?_
   rintro r44 O44 ⟨rfl, rfl⟩
   refine z2<|zTk 12 Z (zAb Z)<|zDn<|zj<|zk (x := .bool _) Z ?_
   exact ⟨by unfold passG; rw [if_pos e, hv0, hu], rfl⟩
  ·have n18 : ¬ op = 18 := fun e => c18 ((word_op hop 18 (by decide) rfl).2 e)
   refine zSr<|z8 (yy Z Z)<|zVzAb Z<|z2<|zo Z (fun c19=>?_) (fun c19=>?_)
   ·have e : op = 19 := (word_op hop 19 (by decide) rfl).1 c19
    refine zc<|zr (fun j => false) (by kernel_rfl) Z (zm (.r (.l (.l (.r (.rest _))))))<|zTk 0 Z (zMp Z)<|zTk 1 Z (y4 Z)<|zTk 2 Z (ze j8 Z jd (by decide) Z Z)<|zTk 3 Z (zl (c := .own _ _) jk Z ⟨_, .head⟩ Z)<|zTk 4 Z (zMf Z)<|zTk 5 Z (zIM 0 j6 j7 Z Z Z ((get0 ho.2.2.1).trans (by rw [hv0]))) ?_
    refine zTk 6 Z (zLi j9 Z)<|zTk 7 Z (yg (j := v0.toNat) j6 j7 Z Z (by omega) ⟨_, .t1⟩ ((cI_len _).trans hl3) (by omega))<|zTk 8 Z (yr (j := v0.toNat) j9 Z ⟨_, .t1⟩ (vi_get (by omega) r0))<|zTk 9 Z (qd Z Z)<|zTk 10 Z (zAb Z)<|zDn<|zw (za (zb .t3))<|zw (za (zb .t3))<|zw (za (zb .t2))<|zj<|zk (x := .bool _) Z ?_
    exact ⟨by unfold passG; rw [if_neg n18, if_pos e, hv0], rfl⟩
   ·have n19 : ¬ op = 19 := fun e => c19 ((word_op hop 19 (by decide) rfl).2 e)
    refine zSr<|z8 (yy Z Z)<|zVzAb Z<|z2<|zo Z (fun c20=>?_) (fun c20=>?_)
    ·have e : op = 20 := (word_op hop 20 (by decide) rfl).1 c20
     refine zSr<|zVzMi Z<|zVGvneqI Z Z<|zVzAb Z<|z2<|zj<|zk (x := .bool _) Z ?_
     exact ⟨by unfold passG; rw [if_neg n18, if_neg n19, if_pos e, hv0]; simp, rfl⟩
    ·have n20 : ¬ op = 20 := fun e => c20 ((word_op hop 20 (by decide) rfl).2 e)
     refine zSr<|z8 (yy Z Z)<|zVzAb Z<|z2<|zo Z (fun c21=>?_) (fun c21=>?_)
     ·have e : op = 21 := (word_op hop 21 (by decide) rfl).1 c21
      refine zSr<|zVzMi Z<|zVzMi Z<|zg (rFits2 (k := 0) (by decide) ha64 hb64) Z<|zVzAb Z<|z2<|zj<|zk (x := .bool _) Z ?_
      exact ⟨by unfold passG; rw [if_neg n18, if_neg n19, if_neg n20, if_pos e, hv0, hu], rfl⟩
     ·have n21 : ¬ op = 21 := fun e => c21 ((word_op hop 21 (by decide) rfl).2 e)
      refine zSr<|z8 (yy Z Z)<|zVzAb Z<|z2<|zo Z (fun c22=>?_) (fun c22=>?_)
      ·have e : op = 22 := (word_op hop 22 (by decide) rfl).1 c22
       refine zSr<|zVzMi Z<|zVzMi Z<|zg (rFits2 (k := 1) (by decide) ha64 hb64) Z<|zVzAb Z<|z2<|zj<|zk (x := .bool _) Z ?_
       exact ⟨by unfold passG; rw [if_neg n18, if_neg n19, if_neg n20, if_neg n21, if_pos e, hv0, hu], rfl⟩
      ·have n22 : ¬ op = 22 := fun e => c22 ((word_op hop 22 (by decide) rfl).2 e)
       refine zSr<|z8 (yy Z Z)<|zVzAb Z<|z2<|zo Z (fun c23=>?_) (fun c23=>?_)
       ·have e : op = 23 := (word_op hop 23 (by decide) rfl).1 c23
        refine zSr<|zVzMi Z<|zVzMi Z<|zg (rFits2 (k := 2) (by decide) ha64 hb64) Z<|zVzAb Z<|z2<|zj<|zk (x := .bool _) Z ?_
        exact ⟨by unfold passG; rw [if_neg n18, if_neg n19, if_neg n20, if_neg n21, if_neg n22, if_pos e, hv0, hu], rfl⟩
       ·have n23 : ¬ op = 23 := fun e => c23 ((word_op hop 23 (by decide) rfl).2 e)
        refine zf<|zSr<|zVzMi Z<|z8 (qd Z Z)<|zVzMb Z<|zq (s := 78) Z (fun cz=>?_) (fun cz=>?_)
        ·have h0 : 0 ≤ vi s.ints v0 := by simpa using cz
         refine z7 Z Z cz<|zVzMi Z<|z7 Z Z cz<|z8 (Gv.leq Z Z)<|zVzPt Z cz Z<|zVzAb Z<|z2<|zj<|zk (x := .bool _) Z ?_
         exact ⟨congrArg AV.bool (by unfold passG; rw [if_neg n18, if_neg n19, if_neg n20, if_neg n21, if_neg n22, if_neg n23, hv0]; simp [h0]), rfl⟩
        ·have h0 : ¬ 0 ≤ vi s.ints v0 := by simpa using cz
         refine z6 Z Z cz<|z6 Z Z cz<|zVzPf Z cz Z<|zVzAb Z<|z2<|zj<|zk (x := .bool _) Z ?_
         exact ⟨congrArg AV.bool (by unfold passG; rw [if_neg n18, if_neg n19, if_neg n20, if_neg n21, if_neg n22, if_neg n23, hv0]; simp [h0]), rfl⟩
end Go.Proofs.YtiojekbkamegdaaGreatDoor
namespace Go.Proofs.YtiojekbkamegdaaGreatDoor
open Go.Proofs.Tryz
open Go.Proofs Go.Lib Go.Shelf Go.RowKit
variable {E : World}
set_option maxRecDepth 20000
end Go.Proofs.YtiojekbkamegdaaGreatDoor
namespace Go.Proofs.YtiojekbkamegdaaGreatDoor
open Go.Proofs.Tryz
open Go.Proofs Go.Lib Go.Shelf Go.RowKit
variable {E : World}
set_option maxRecDepth 20000
theorem small_num {f : PFunc} (hf : small f) (r : Int → Int) : small (numF f r) := by
 obtain ⟨h1, h2, h3, h4, h5⟩ := hf
 refine ⟨h1, h2, by show (f.blocks.map _).length ≤ _; rw [qx]; exact h3, h4, fun b hb => ?_⟩
 obtain ⟨c, hc, rfl⟩ := List.mem_map.1 hb
 obtain ⟨g0, g1, g2, g3, g4⟩ := h5 c hc
 refine ⟨g0, by show (c.phis.map _).length ≤ _; rw [qx]; exact g1, ?_, fun p hp => ?_, fun x hx => ?_⟩
 ·show ((c.insts.filter _).map _).length ≤ _
  rw [qx]; exact Nat.le_trans (List.length_filter_le _ _) g2
 ·obtain ⟨q, hq, rfl⟩ := List.mem_map.1 hp
  exact ⟨by show (q.args.map _).length ≤ _; rw [qx]; exact (g3 q hq).1, (g3 q hq).2⟩
 ·obtain ⟨z, hz, rfl⟩ := List.mem_map.1 hx
  show (z.args.map _).length ≤ _
  rw [qx]; exact g4 z (List.mem_filter.1 hz).1
end Go.Proofs.YtiojekbkamegdaaGreatDoor
namespace Go.Proofs.YtiojekbkamegdaaGreatDoor
open Go.Proofs.Tryz
open Go.Proofs Go.Lib Go.Shelf Go.RowKit
theorem pl79 : Places prog 79 #[(0, 1), (1, 1)] [.str ⟨#[]⟩, .int .i64 0] := ⟨_, _, Zl, zeroValue79, fun w => by kernel_rfl, rfl⟩
theorem ps22_4 : PlacesS prog 22 79 4 2 [.str ⟨#[]⟩, .int .i64 0, .str ⟨#[]⟩, .int .i64 0, .str ⟨#[]⟩, .int .i64 0, .str ⟨#[]⟩, .int .i64 0] := ⟨_, Z4, Ye, zeroValue79, by decide, by decide, by kernel_rfl⟩
theorem ps52_2 : PlacesS prog 52 61 2 4 [.int .i64 0, .int .i64 0, .raw (.slice none 0 0), .int .i64 0, .int .i64 0, .int .i64 0, .raw (.slice none 0 0), .int .i64 0] := ⟨_, jv, Z2, Zy, by decide, by decide, by kernel_rfl⟩
theorem pl56 : Places prog 56 #[(0, 1), (1, 1), (2, 2)] [.int .i64 0, .int .i64 0, .int .i64 0, .int .i64 0] := ⟨_, _, jf, zeroValue56, fun w => by kernel_rfl, rfl⟩
variable {E : World}
set_option maxRecDepth 20000
theorem inst_F {f : PFunc} (hS : ShapedP f) {b : PBlock} (hb : b ∈ f.blocks) {x : PInst} (hx : x ∈ b.insts) : InstF f x := instP_F ((hS.2.2.2.2.2 b hb).2.1 x hx)
theorem inst_dst {f : PFunc} (hS : ShapedP f) {b : PBlock} (hb : b ∈ f.blocks) {x : PInst} (hx : x ∈ b.insts) : x.dst < f.vars.length ∧ (cntB x.op = true → 0 ≤ x.dst) := by
 have hF := inst_F hS hb hx
 rcases hF.dst with ⟨h1, h2⟩ | ⟨_, _, h3⟩
 ·refine ⟨by omega, fun hc=>?_⟩
  unfold cntB at hc
  have hop := hF.op
  have : makesB x.op = true := by
   obtain ⟨j, hj⟩ : ∃ j : Nat, x.op = (j : Int) := ⟨x.op.toNat, by omega⟩
   rw [hj, makesN j (by omega)]
   have hc := of_decide_eq_true hc
   have : j = 0 ∨ j = 2 ∨ j = 3 ∨ j = 4 ∨ j = 5 ∨ j = 6 ∨ j = 7 ∨ j = 8 ∨ j = 9 ∨ j = 10 ∨ j = 11 ∨ j = 12 ∨ j = 16 := by omega
   rcases this with h | h | h | h | h | h | h | h | h | h | h | h | h <;> (rw [h]; decide)
  rw [this] at h1; cases h1
 ·exact ⟨(has_lt h3).1, fun _ => (has_lt h3).2⟩
theorem inst_cnt {f : PFunc} {x : PInst} (hF : InstF f x) (hc : cntB x.op = true) : x.args.length ≤ 2 ∧ (trnB x.op = true → x.args.length = 2) := by
 have hop := hF.op
 obtain ⟨j, hj⟩ : ∃ j : Nat, x.op = (j : Int) := ⟨x.op.toNat, by omega⟩
 rw [hF.argc, hj]
 unfold cntB at hc
 unfold trnB
 rw [hj] at hc
 have hc := of_decide_eq_true hc
 have : j = 0 ∨ j = 2 ∨ j = 3 ∨ j = 4 ∨ j = 5 ∨ j = 6 ∨ j = 7 ∨ j = 8 ∨ j = 9 ∨ j = 10 ∨ j = 11 ∨ j = 12 ∨ j = 16 := by omega
 rcases this with h | h | h | h | h | h | h | h | h | h | h | h | h <;> (subst h; decide)
theorem num_all {f : PFunc} (hf : small f) (hS : ShapedP f) (hE : EndsOk f) (hs : SingP f) : ∃ rk, NumOk f rk ∧ ∀ r, Roots f r → NumA f r rk := by
 obtain ⟨hJ, hA, ho, hB⟩ := hs
 have hat : ∀ i k x, AtI f i k x → ∃ b ∈ f.blocks, x ∈ b.insts := fun i k x ⟨b, h1, h2⟩ => ⟨b, w1 h1, w1 h2⟩
 have hd : ∀ i k x, NumI f i k x → 0 ≤ x.dst ∧ x.dst < f.vars.length := fun i k x h => by
  obtain ⟨b, hb, hx⟩ := hat i k x h.1
  have := inst_dst hS hb hx
  exact ⟨this.2 h.2, this.1⟩
 have hd2 : ∀ i k x, AtI f i k x → x.dst < f.vars.length := fun i k x h => by
  obtain ⟨b, hb, hx⟩ := hat i k x h
  exact (inst_dst hS hb hx).1
 have hH := numH_of (M := 1000) hE hA ho hB hd fun b hb => (hf.2.2.2.2 b hb).2.2.1
 have hO := oneM_of ho hd2
 have hok : NumOk f _ := ⟨hH, hO, hd⟩
 have hV := oneV_of ho (fun b hb x hx => (inst_dst hS hb hx).1) fun b hb p hp => by
  have := has_lt ((hS.2.2.2.2.2 b hb).1 p hp).1
  exact ⟨this.2, this.1⟩
 refine ⟨_, hok, fun r hr => ⟨hf, hE, hA, hB, fun b hb x hx v hv => ?_, fun b hb hk => ?_, ⟨hok, hr, ?_, ?_⟩⟩⟩
 ·have := has_lt ((inst_F hS hb hx).args v hv)
  exact ⟨this.2, this.1⟩
 ·have h := (hS.2.2.2.2.2 b hb).2.2
  unfold termOK at h
  rw [if_neg hk] at h
  have h2 : hasV f b.term.var = true := by
   split at h
   ·simp only [w6] at h; exact h.1.1
   ·split at h
    ·simp only [w6] at h; exact h.1
    ·cases h
  have := has_lt h2
  exact ⟨this.2, this.1⟩
 ·exact keyI_of (fun b hb x hx hc => inst_cnt (inst_F hS hb hx) hc) (fun b hb x hx c hc y hy e => by rw [(inst_F hS hb hx).argc, (inst_F hS hc hy).argc, e]) r
 ·exact ⟨fun i k x ⟨⟨b, h1, h2⟩, hc⟩ => hV.inst i k b x h1 h2 (hd i k x ⟨⟨b, h1, h2⟩, hc⟩).1, hd⟩
theorem phi_args {f : PFunc} (hS : ShapedP f) : ∀ b ∈ f.blocks, ∀ p ∈ b.phis, ∀ v ∈ p.args, 0 ≤ v ∧ v < f.vars.length := fun b hb p hp v hv => by
 have := has_lt (List.all_eq_true.1 ((hS.2.2.2.2.2 b hb).1 p hp).2.2.2.1 v hv)
 exact ⟨this.2, this.1⟩
def exF : PFunc := ⟨[⟨⟨#[110]⟩, 0⟩, ⟨⟨#[107]⟩, 0⟩, ⟨⟨#[109]⟩, 0⟩, ⟨⟨#[108]⟩, 0⟩], [0, 1], [⟨⟨#[97]⟩, [], [⟨2, 2, [0, 1], 0⟩, ⟨2, 3, [1, 0], 0⟩], ⟨2, 3, 0, 0⟩⟩]⟩
def exR (v : Int) : Int := if v = 3 then 2 else v
theorem ex_small : small exF := by unfold small exF; simp [smallBlk]; decide
theorem ex_typed : typedB exF = true := by decide +kernel
theorem ex_sing : singB exF = true := by decide +kernel
theorem ex_at {i k : Nat} {x : PInst} (h : NumI exF i k x) : i = 0 ∧ ((k = 0 ∧ x = ⟨2, 2, [0, 1], 0⟩) ∨ (k = 1 ∧ x = ⟨2, 3, [1, 0], 0⟩)) := by
 obtain ⟨⟨b, h1, h2⟩, _⟩ := h
 match i, h1 with
 | 0, h1 =>
  cases h1
  match k, h2 with
  | 0, h2 => cases h2; exact ⟨rfl, .inl ⟨rfl, rfl⟩⟩
  | 1, h2 => cases h2; exact ⟨rfl, .inr ⟨rfl, rfl⟩⟩
  | k + 2, h2 => exact absurd h2 (by simp)
 | i + 1, h1 => exact absurd h1 (by simp [exF])
theorem ex_roots : Roots exF exR := by
 have hno : ∀ {k : Nat}, ¬ AheadI exF 0 k 0 0 := fun {k} h => by
  rcases h with h | ⟨_, h⟩ | ⟨_, h, _⟩
  ·dsimp only at h; omega
  ·dsimp only at h; omega
  ·exact h rfl
 refine ⟨fun v hv => ?_, fun i k y hy => ?_, fun i k y i' k' x hy hx ha rx ry => ?_⟩
 ·unfold exR
  split
  ·rename_i e
   exact absurd e.symm (hv 0 1 ⟨2, 3, [1, 0], 0⟩ ⟨⟨_, rfl, rfl⟩, rfl⟩)
  ·rfl
 ·obtain ⟨rfl, ⟨rfl, rfl⟩ | ⟨rfl, rfl⟩⟩ := ex_at hy
  ·exact .inl rfl
  ·exact .inr ⟨0, 0, ⟨2, 2, [0, 1], 0⟩, ⟨⟨_, rfl, rfl⟩, rfl⟩, .inr (.inl ⟨rfl, by decide⟩), rfl, rfl, by decide⟩
 ·obtain ⟨rfl, ⟨rfl, rfl⟩ | ⟨rfl, rfl⟩⟩ := ex_at hy
  ·obtain ⟨rfl, _⟩ := ex_at hx
   exact absurd ha hno
  ·exact absurd ry (by decide)
theorem lives31_spec (hL : Letters E) : AFun prog E 10 [] (.bool true) := by
 have hS := typedB_shaped ex_typed
 have hE := typedB_ends ex_typed
 obtain ⟨rk, _, hN⟩ := num_all ex_small hS hE ((singB_iff hE).1 ex_sing)
 have hnum := numF_spec (E := E) exF hL ex_typed ex_sing (hN exR ex_roots) fun b hb p hp => by
  cases hb with
  | head => cases hp
  | tail _ hb => cases hb
 rw [show numF exF exR = ⟨[⟨⟨#[110]⟩, 0⟩, ⟨⟨#[107]⟩, 0⟩, ⟨⟨#[109]⟩, 0⟩, ⟨⟨#[108]⟩, 0⟩], [0, 1], [⟨⟨#[97]⟩, [], [⟨2, 2, [0, 1], 0⟩], ⟨2, 2, 0, 0⟩⟩]⟩ from by decide +kernel] at hnum
 refine zp func10 Z (by decide) Z<|zSr<|zVzAb Z<|z2<|zSr<|z8 (zz (cps := [(0, [_])]) (rs := [_, .int .i64 0]) pl79 Z Z Z)<|z8 (zz (cps := [(0, [_])]) (rs := [_, .int .i64 0]) pl79 Z Z Z)<|z8 (zz (cps := [(0, [_])]) (rs := [_, .int .i64 0]) pl79 Z Z Z)<|z8 (zz (cps := [(0, [_])]) (rs := [_, .int .i64 0]) pl79 Z Z Z)<|zx (rows := [[_, _], [_, _], [_, _], [_, _]]) ps22_4 Z Z Z Z Z<|zx (rows := [[_], [_]]) ps23_2 Z Z Z Z Z<|zx (rows := [[_], [_]]) ps23_2 Z Z Z Z Z<|z8 (zz (cps := [(0, [_]), (1, [_]), (2, [_])]) (rs := [_, _, _, .int .i64 0]) pl61 Z Z Z)<|zx (rows := [[_], [_]]) ps23_2 Z Z Z Z Z<|z8 (zz (cps := [(0, [_]), (1, [_]), (2, [_])]) (rs := [_, _, _, .int .i64 0]) pl61 Z Z Z)<|zx (rows := [[_, _, _, _], [_, _, _, _]]) ps52_2 Z Z Z Z Z<|z8 (zz (cps := [(0, [_]), (1, [_])]) (rs := [_, _, .int .i64 0, .int .i64 0]) pl56 Z Z Z)<|z8 (zz (cps := [(0, [_]), (2, [_]), (3, [_, _, _, _])]) (rs := [_, .raw (.slice none 0 0), _, _, _, _, _]) pl58 Z Z Z)<|zd (GStep.slot (t := 16) Z (Imp.agg (.cons (.refl _) (.cons (.nil 3) (.cons (.refl _) (.cons (.refl _) (.cons (.refl _) (.cons (.refl _) (.cons (.refl _) .nil)))))))))<|zx (rows := [[_, _, _, _, _, _, _]]) ps24_1 Z Z Z Z Z<|z8 (zz (cps := [(0, [_]), (1, [_]), (2, [_])]) (rs := [_, _, _]) pl26 Z Z Z)<|zt (cs := [.raw (.slice none 0 0), .raw (.slice none 0 0), .raw (.slice none 0 0)]) Yj Z Z<|fun i1 => zn jj Z Z Z Z Z Z .head Z<|zd (yf (t := 1) Z .head)<|z2<|zSr<|zVGvloadWF jq jj Z Z<|zg (hnum) Z<|z8 (zMu Z)<|z8 (Gv.extract (v := .agg _) Z Z)<|z8 (zXi Z Z)<|zt (cs := [.raw (.slice none 0 0), .raw (.slice none 0 0), .raw (.slice none 0 0)]) Yj Z Z<|fun i2 => zn jj Z Z Z Z Z Z .head Z<|zd (yf (t := 2) Z .head)<|zVzAi Z<|z2<|zSr<|zVzMi Z<|zVGveqlI Z Z ?_
 refine zVzMb Z<|z7 Z Z Z<|zVzFF jh Z Z1 Z Z<|z7 Z Z Z<|zVzLf Z8 Z<|z7 Z Z Z<|zVGvlenM jl Z<|z7 Z Z Z<|zVGveqlI Z Z<|zVzPt Z Z Z<|zVzMb Z<|z7 Z Z Z<|zVzFF jh Z Z1 Z Z<|z7 Z Z Z<|zVzLf Z8 Z<|z7 Z Z Z<|z8 (zIM 0 jl jw Z Z Z Z)<|z7 Z Z Z<|zVzFF je Z Zb Z Z<|z7 Z Z Z<|zVzLf Zw Z<|z7 Z Z Z<|zVGvlenM jv Z<|z7 Z Z Z<|zVGveqlI Z Z<|zVzPt Z Z Z<|zVzMb Z<|z7 Z Z Z<|zVzFF jh Z Z1 Z Z<|z7 Z Z Z<|zVzLf Z8 Z<|z7 Z Z Z<|z8 (zIM 0 jl jw Z Z Z Z)<|z7 Z Z Z<|zVzFF je Z Ze Z Z<|z7 Z Z Z<|zVzFF jf Z j7 Z Z<|z7 Z Z Z<|zVzLi j9 Z<|z7 Z Z Z<|zVGveqlI Z Z ?_
 refine zVzPt Z Z Z<|zVzAb Z<|z2<|zj<|zk (x := .bool _) Z ?_
 rfl
end Go.Proofs.YtiojekbkamegdaaGreatDoor
namespace Go.Proofs.YtiojekbkamegdaaGreatDoor
open Go.Proofs.Tryz
theorem made_kind {f : PFunc} {x : PInst} (ht : instT f x = true) (hm : makesB x.op = true) (h1 : x.op ≠ 1) : kindV f x.dst = makesT x.op := by
 unfold instT at ht
 rw [if_neg h1, hm] at ht
 simp at ht
 exact ht.2
theorem cnt_makes {f : PFunc} {x : PInst} (hF : InstF f x) (hc : cntB x.op = true) : makesB x.op = true ∧ x.op ≠ 1 := by
 have hop := hF.op
 obtain ⟨j, hj⟩ : ∃ j : Nat, x.op = (j : Int) := ⟨x.op.toNat, by omega⟩
 rw [hj, makesN j (by omega)]
 unfold cntB at hc
 rw [hj] at hc
 have hc := of_decide_eq_true hc
 have : j = 0 ∨ j = 2 ∨ j = 3 ∨ j = 4 ∨ j = 5 ∨ j = 6 ∨ j = 7 ∨ j = 8 ∨ j = 9 ∨ j = 10 ∨ j = 11 ∨ j = 12 ∨ j = 16 := by omega
 rcases this with h | h | h | h | h | h | h | h | h | h | h | h | h <;> (subst h; decide)
theorem typed_inst {f : PFunc} (ht : typedB f = true) {b : PBlock} (hb : b ∈ f.blocks) {x : PInst} (hx : x ∈ b.insts) : instT f x = true := by
 unfold typedB at ht
 have h1 := List.all_eq_true.1 (and3 ht).2 b hb
 unfold blkT at h1
 simp only [w6] at h1
 exact List.all_eq_true.1 h1.1.2 x hx
structure RootK (f : PFunc) (r : Int → Int) : Prop where
 kind : ∀ v : Int, 0 ≤ v → v < f.vars.length → (0 ≤ r v ∧ r v < f.vars.length) ∧ kindV f (r v) = kindV f v
 keep : ∀ v : Int, (∀ i k x, NumI f i k x → x.dst ≠ v) → r v = v
theorem root_kind {f : PFunc} {r : Int → Int} (ht : typedB f = true) (hr : Roots f r) : RootK f r := by
 have hS := typedB_shaped ht
 refine ⟨fun v h0 h1 => ?_, hr.id⟩
 by_cases hv : ∃ i k x, NumI f i k x ∧ x.dst = v
 ·obtain ⟨i, k, y, hy, rfl⟩ := hv
  rcases hr.rt i k y hy with e | ⟨i', k', x, hx, _, _, e, hs⟩
  ·rw [e]; exact ⟨⟨h0, h1⟩, rfl⟩
  ·rw [e]
   obtain ⟨b, b1, b2⟩ := hy.1
   obtain ⟨c, c1, c2⟩ := hx.1
   have mb := w1 b1
   have mc := w1 c1
   have my := w1 b2
   have mx := w1 c2
   have hd := inst_dst hS mc mx
   have eo : x.op = y.op := (sameI_iff.1 hs).2.1.1
   obtain ⟨m1, n1⟩ := cnt_makes (inst_F hS mc mx) hx.2
   obtain ⟨m2, n2⟩ := cnt_makes (inst_F hS mb my) hy.2
   refine ⟨⟨hd.2 hx.2, hd.1⟩, ?_⟩
   rw [made_kind (typed_inst ht mc mx) m1 n1, made_kind (typed_inst ht mb my) m2 n2, eo]
 ·rw [hr.id v fun i k x hx e => hv ⟨i, k, x, hx, e⟩]
  exact ⟨⟨h0, h1⟩, rfl⟩
section
variable {f : PFunc} {r : Int → Int} (hK : RootK f r)
include hK
theorem hasV_root {v : Int} (h : hasV f v = true) : hasV (numF f r) (r v) = true := by
 have h1 := has_lt h
 have := (hK.kind v h1.2 h1.1).1
 show (decide (0 ≤ r v) && decide (r v < f.vars.length)) = true
 simp [this]
theorem kind_root {v : Int} (h : hasV f v = true) : kindV (numF f r) (r v) = kindV f v := (hK.kind v (has_lt h).2 (has_lt h).1).2
theorem all_root {l : List Int} (h : l.all (hasV f) = true) : (l.map r).all (hasV (numF f r)) = true := by
 rw [w7] at h ⊢
 intro v hv
 obtain ⟨a, ha, rfl⟩ := List.mem_map.1 hv
 exact hasV_root hK (h a ha)
theorem map_root {l : List Int} (h : l.all (hasV f) = true) : (l.map r).map (kindV (numF f r)) = l.map (kindV f) := by
 rw [List.map_map]
 exact List.map_congr_left fun v hv => kind_root hK (List.all_eq_true.1 h v hv)
omit hK in
theorem hasB_num (b : Int) : hasB (numF f r) b = hasB f b := by
 unfold hasB
 rw [show (numF f r).blocks.length = f.blocks.length from qx ..]
omit hK in
theorem hasV_num (v : Int) : hasV (numF f r) v = hasV f v := rfl
theorem shaped_num (hS : ShapedP f) : ShapedP (numF f r) := by
 obtain ⟨h1, h2, h3, h4, h5, h6⟩ := hS
 have hl : (numF f r).blocks.length = f.blocks.length := qx ..
 refine ⟨?_, h2, h3, fun i hi => ?_, ?_, fun c hc => ?_⟩
 ·have : bad1 (numF f r) = bad1 f := by unfold bad1; rw [hl]; rfl
  rw [this]; exact h1
 ·have hi2 : i < f.blocks.length := by omega
  have e : (numF f r).blocks[i] = numB r f.blocks[i] := List.getElem_map ..
  obtain ⟨g1, g2⟩ := h4 i hi2
  unfold NamP
  rw [e]
  refine ⟨g1, ?_⟩
  show ∀ s ∈ (((f.blocks.map (numB r)).take i).map (·.name)), s ≠ f.blocks[i].name
  rw [← List.map_take, List.map_map]
  exact g2
 ·refine Nat.le_trans ?_ h5
  unfold sumTo
  show ((f.blocks.map (numB r)).map _).sum ≤ _
  rw [List.map_map]
  have : ∀ l : List PBlock, (l.map ((fun b : PBlock => b.phis.length + b.insts.length) ∘ numB r)).sum ≤ (l.map fun b => b.phis.length + b.insts.length).sum := by
   intro l
   induction l with
   | nil => exact Nat.le_refl _
   | cons b l ih =>
    rw [List.map_cons, List.map_cons, List.sum_cons, List.sum_cons]
    have e1 : (numB r b).phis.length = b.phis.length := qx ..
    have e2 : (numB r b).insts.length ≤ b.insts.length := by
     show ((b.insts.filter _).map _).length ≤ _
     rw [qx]; exact List.length_filter_le _ _
    show (numB r b).phis.length + (numB r b).insts.length + _ ≤ _
    omega
  exact this _
 ·obtain ⟨b, hb, rfl⟩ := List.mem_map.1 hc
  obtain ⟨g1, g2, g3⟩ := h6 b hb
  refine ⟨fun q hq => ?_, fun z hz => ?_, ?_⟩
  ·obtain ⟨p, hp, rfl⟩ := List.mem_map.1 hq
   obtain ⟨p1, p2, p3, p4, p5⟩ := g1 p hp
   refine ⟨p1, by show (p.args.map r).length = _; rw [qx]; exact p2, by show 1 ≤ (p.args.map r).length; rw [qx]; exact p3, all_root hK p4, ?_⟩
   rw [w7] at p5 ⊢
   exact fun b hb => by rw [hasB_num]; exact p5 b hb
  ·obtain ⟨x, hx, rfl⟩ := List.mem_map.1 hz
   obtain ⟨x1, x2, x3, x4⟩ := g2 x (List.mem_filter.1 hx).1
   refine ⟨x1, x2, ?_, all_root hK x4⟩
   have : bad2 (numF f r) (mapI r x) = bad2 f x := by
    unfold bad2
    rw [show (mapI r x).args.length = x.args.length from qx ..]; rfl
   rw [this]; exact x3
  ·show termOK (numF f r) (numTm r b.term) = true
   unfold termOK numTm at *
   simp only [hasB_num, hasV_num]
   by_cases k0 : b.term.kind = 0
   ·simp only [k0, if_true] at g3 ⊢; exact g3
   ·by_cases k1 : b.term.kind = 1
    ·simp only [k1, if_neg (show ¬ (1 : Int) = 0 by decide), if_true, w6] at g3 ⊢
     exact ⟨⟨hasV_root hK g3.1.1, g3.1.2⟩, g3.2⟩
    ·rw [if_neg k0, if_neg k1] at g3
     rw [if_neg k0, if_neg k1, if_neg k0]
     by_cases k2 : b.term.kind = 2
     ·simp only [k2, if_true, w6] at g3 ⊢
      exact ⟨hasV_root hK g3.1, g3.2⟩
     ·rw [if_neg k2] at g3; cases g3
theorem typed_num (ht : typedB f = true) : typedB (numF f r) = true := by
 have hS := typedB_shaped ht
 unfold typedB
 rw [shapedB_eq, w4 (shaped_num hK hS), Bool.true_and, w7]
 intro c hc
 obtain ⟨b, hb, rfl⟩ := List.mem_map.1 hc
 have h1 := List.all_eq_true.1 (and3 (show (_ && _) = true from ht)).2 b hb
 obtain ⟨s1, s2, s3⟩ := hS.2.2.2.2.2 b hb
 unfold blkT at h1 ⊢
 simp only [w6] at h1 ⊢
 obtain ⟨⟨t1, t2⟩, t3⟩ := h1
 refine ⟨⟨?_, ?_⟩, ?_⟩
 ·rw [w7] at t1 ⊢
  intro q hq
  obtain ⟨p, hp, rfl⟩ := List.mem_map.1 hq
  have g := t1 p hp
  unfold phiT at g ⊢
  rw [Bool.not_eq_true', List.any_eq_false] at g ⊢
  intro v hv
  obtain ⟨a, ha, rfl⟩ := List.mem_map.1 hv
  rw [kind_root hK (List.all_eq_true.1 (s1 p hp).2.2.2.1 a ha)]
  exact g a ha
 ·rw [w7] at t2 ⊢
  intro z hz
  obtain ⟨x, hx, rfl⟩ := List.mem_map.1 hz
  have hxm := (List.mem_filter.1 hx).1
  have g := t2 x hxm
  have ha := (s2 x hxm).2.2.2
  unfold instT at g ⊢
  show (if x.op = 1 then decide (kindV f x.dst = kindV f ((x.args.map r).headD 0)) else decide ((x.args.map r).map (kindV (numF f r)) = takesL x.op) && (!makesB x.op || decide (kindV f x.dst = makesT x.op))) = true
  rw [map_root hK ha]
  split
  ·rename_i e
   rw [if_pos e] at g
   have hl := (inst_F hS hb hxm).argc
   rw [e] at hl
   match hx : x.args, hl with
   | [a], _ =>
    rw [hx] at g ha
    show decide (kindV f x.dst = kindV f (r a)) = true
    rw [show kindV f (r a) = kindV f a from kind_root hK (List.all_eq_true.1 ha a (.head _))]
    exact g
   | [], hl => simp at hl
   | _ :: _ :: _, hl => simp at hl
  ·rename_i e
   rw [if_neg e] at g
   exact g
 ·unfold termT at t3 ⊢
  show (if b.term.kind = 0 then !decide (b.term.to0 = 0) else if b.term.kind = 1 then decide (kindV (numF f r) (numTm r b.term).var = 1) && !decide (b.term.to0 = 0) && !decide (b.term.to1 = 0) else decide (kindV (numF f r) (numTm r b.term).var = 0)) = true
  by_cases k0 : b.term.kind = 0
  ·rw [if_pos k0] at t3 ⊢; exact t3
  ·have hv : hasV f b.term.var = true := by
    unfold termOK at s3
    rw [if_neg k0] at s3
    split at s3
    ·simp only [w6] at s3; exact s3.1.1
    ·split at s3
     ·simp only [w6] at s3; exact s3.1
     ·cases s3
   have e : kindV (numF f r) (numTm r b.term).var = kindV f b.term.var := by
    unfold numTm; dsimp only; rw [if_neg k0]; exact kind_root hK hv
   rw [if_neg k0, e]
   rw [if_neg k0] at t3
   exact t3
end
theorem cq_all (r : Int → Int) (b : PBlock) : ((cq (keepI r) b.insts b.insts.length : Nat) : Int) = (numB r b).insts.length := by
 unfold cq
 rw [qv]
 show _ = ((((b.insts.filter (keepI r)).map (mapI r)).length : Nat) : Int)
 rw [qx]
end Go.Proofs.YtiojekbkamegdaaGreatDoor
namespace Go.Proofs.YtiojekbkamegdaaGreatDoor
open Go.Proofs.Tryz
def kd (op : Int) : Nat := if 7 ≤ op ∧ op ≤ 11 then 1 else if op = 16 then 2 else 0
def Dfl (s : GS) (z : PInst) : Prop := (kd z.op ≠ 0 → vi s.ints z.dst = 0) ∧ (kd z.op ≠ 1 → gb s.bools z.dst = false) ∧ (kd z.op ≠ 2 → vi s.arrs z.dst = -1)
def valA : Act → Option (Int × Bool × Int)
 | .i v => some (v, false, -1)
 | .b v => some (0, v, -1)
 | .a v => some (0, false, v)
 | _ => none
def Holds (s : GS) (z : PInst) : Prop := valA (actG s z) = some (V s z.dst)
theorem cnt_num {op : Int} (hc : cntB op = true) : ∃ j : Nat, op = (j : Int) ∧ (j = 0 ∨ j = 2 ∨ j = 3 ∨ j = 4 ∨ j = 5 ∨ j = 6 ∨ j = 7 ∨ j = 8 ∨ j = 9 ∨ j = 10 ∨ j = 11 ∨ j = 12 ∨ j = 16) := by
 unfold cntB at hc
 have hc := of_decide_eq_true hc
 exact ⟨op.toNat, by omega, by omega⟩
theorem cnt_act {s : GS} {z : PInst} (hc : cntB z.op = true) : (∃ v, actG s z = .i v ∧ kd z.op = 0) ∨ (∃ v, actG s z = .b v ∧ kd z.op = 1) ∨ (∃ v, actG s z = .a v ∧ kd z.op = 2) ∨ actG s z = .stop 2 := by
 obtain ⟨j, hj, h⟩ := cnt_num hc
 unfold actG kd
 rw [hj]
 rcases h with rfl | rfl | rfl | rfl | rfl | rfl | rfl | rfl | rfl | rfl | rfl | rfl | rfl <;> simp
 ·by_cases h : bG s z = 0 <;> simp [h]
 ·by_cases h : bG s z = 0 <;> simp [h]
 ·by_cases h : rG s z < 0 <;> simp [h]
theorem cnt_not {op : Int} (hc : cntB op = true) : ¬ (18 ≤ op ∧ op ≤ 24) := by
 obtain ⟨j, hj, h⟩ := cnt_num hc
 omega
theorem act_cnt {f : PFunc} {s t : GS} {x y : PInst} (hF : InstF f x) (hc : cntB x.op = true) (h : ArgEq s t x y) (hrow : x.op = 12 → 0 ≤ rG s x → (rowG s (rG s x)).length = (rowG t (rG s x)).length) : actG s x = actG t y := by
 obtain ⟨r0, r1, _⟩ := h.reads
 have ha := hF.argc
 obtain ⟨j, hj, hh⟩ := cnt_num hc
 unfold actG
 simp only [← h.op, ← h.num]
 rw [hj] at ha
 rw [hj]
 rcases hh with rfl | rfl | rfl | rfl | rfl | rfl | rfl | rfl | rfl | rfl | rfl | rfl | rfl
 case inr.inr.inr.inr.inr.inr.inr.inr.inr.inr.inr.inl =>
  have ha : x.args.length = _ := ha
  simp only [Int.toNat_natCast, List.getElem?_cons_zero, List.getElem?_cons_succ, Option.getD_some] at ha
  have e := (r0 (by omega)).2.2
  simp only [← e]
  by_cases hl : rG s x < 0
  ·simp [hl]
  ·simp [hl, hrow hj (by omega)]
 all_goals
  have ha : x.args.length = _ := ha
  simp only [Int.toNat_natCast, List.getElem?_cons_zero, List.getElem?_cons_succ, Option.getD_some] at ha
  first
  | (simp [(r0 (by omega)).1, (r0 (by omega)).2.1, (r0 (by omega)).2.2, (r1 (by omega)).1, (r1 (by omega)).2]; done)
  | (simp [(r0 (by omega)).1, (r0 (by omega)).2.1, (r0 (by omega)).2.2]; done)
  | simp
theorem act_comm {s : GS} {x y : PInst} (ht : trnB x.op = true) (ho : x.op = y.op) (hn : x.num = y.num) {a b : Int} (hx : x.args = [a, b]) (hy : y.args = [b, a]) : actG s x = actG s y := by
 have e1 : aG s x = bG s y := by unfold aG bG ar0 ar1; rw [hx, hy]; rfl
 have e2 : bG s x = aG s y := by unfold aG bG ar0 ar1; rw [hx, hy]; rfl
 have e3 : pG s x = qG s y := by unfold pG qG ar0 ar1; rw [hx, hy]; rfl
 have e4 : qG s x = pG s y := by unfold pG qG ar0 ar1; rw [hx, hy]; rfl
 unfold trnB at ht
 have ht := of_decide_eq_true ht
 unfold actG
 simp only [← ho, ← hn, e1, e2, e3, e4]
 rcases ht with h | h | h | h
 ·rw [h]; simp [op3, Int.add_comm]
 ·rw [h]; simp [op3, Int.mul_comm]
 ·rw [h]; simp [eq_comm]
 ·rw [h]; simp [Bool.and_comm]
theorem V_other {s : GS} {d : Int} {A : Act} {v : Int} (h : 0 ≤ d) (h0 : 0 ≤ v) (hne : v ≠ d) : V (act s d A) v = V s v := by
 cases A <;> unfold V act <;> simp only [stopG, stI, stB, stA, vi_ne h h0 hne, gb_ne h h0 hne]
theorem V_made {s t : GS} {d : Int} {A : Act} {n : Nat} (h0 : 0 ≤ d) (h1 : d < n) (l1 : s.ints.length = n ∧ s.bools.length = n ∧ s.arrs.length = n) (l2 : t.ints.length = n ∧ t.bools.length = n ∧ t.arrs.length = n) (h : V s d = V t d) : V (act s d A) d = V (act t d A) d := by
 unfold V at h
 simp only [Prod.mk.injEq] at h
 obtain ⟨e1, e2, e3⟩ := h
 cases A <;> unfold V act <;> simp only [stopG, stI, stB, stA, e1, e2, e3] <;>
  (try rw [vi_eq h0 (by omega), vi_eq h0 (by omega)]) <;> (try rw [gb_eq h0 (by omega), gb_eq h0 (by omega)]) <;> (try rw [vi_eq h0 (by omega), vi_eq h0 (by omega)])
theorem V_cnt {s : GS} {z : PInst} {n : Nat} (h0 : 0 ≤ z.dst) (h1 : z.dst < n) (l1 : s.ints.length = n ∧ s.bools.length = n ∧ s.arrs.length = n) (hc : cntB z.op = true) (hD : Dfl s z) {w : Int × Bool × Int} (hw : valA (actG s z) = some w) : V (act s z.dst (actG s z)) z.dst = w := by
 obtain ⟨d1, d2, d3⟩ := hD
 rcases cnt_act (s := s) hc with ⟨v, e, k⟩ | ⟨v, e, k⟩ | ⟨v, e, k⟩ | e
 ·rw [e] at hw ⊢
  rw [← Option.some.inj hw]
  unfold V act stI
  rw [vi_eq h0 (by omega), d2 (by omega), d3 (by omega)]
 ·rw [e] at hw ⊢
  rw [← Option.some.inj hw]
  unfold V act stB
  rw [gb_eq h0 (by omega), d1 (by omega), d3 (by omega)]
 ·rw [e] at hw ⊢
  rw [← Option.some.inj hw]
  unfold V act stA
  rw [vi_eq h0 (by omega), d1 (by omega), d2 (by omega)]
 ·rw [e] at hw; cases hw
theorem Dfl_act {s : GS} {z x : PInst} (hz0 : 0 ≤ z.dst) (hd : 0 ≤ x.dst) (h : Dfl s z) (hne : z.dst = x.dst → z = x ∧ cntB x.op = true) : Dfl (act s x.dst (actG s x)) z := by
 by_cases e : z.dst = x.dst
 ·obtain ⟨rfl, hc⟩ := hne e
  obtain ⟨d1, d2, d3⟩ := h
  rcases cnt_act (s := s) hc with ⟨v, e, k⟩ | ⟨v, e, k⟩ | ⟨v, e, k⟩ | e
  ·rw [e]; exact ⟨fun h => absurd k h, d2, d3⟩
  ·rw [e]; exact ⟨d1, fun h => absurd k h, d3⟩
  ·rw [e]; exact ⟨d1, d2, fun h => absurd k h⟩
  ·rw [e]; exact ⟨d1, d2, d3⟩
 ·have := V_other (s := s) (A := actG s x) hd hz0 e
  unfold V at this
  simp only [Prod.mk.injEq] at this
  unfold Dfl
  rw [this.1, this.2.1, this.2.2]; exact h
theorem act_nodst {f : PFunc} {s : GS} {x : PInst} (hF : InstF f x) (ho : ¬ (18 ≤ x.op ∧ x.op ≤ 24)) (hd : x.dst < 0) : (∃ e, actG s x = .stop e) ∨ (∃ l, actG s x = .row l) ∨ ∃ l, actG s x = .out l := by
 have hop := hF.op
 obtain ⟨j, hj⟩ : ∃ j : Nat, x.op = (j : Int) := ⟨x.op.toNat, by omega⟩
 have hm : makesB x.op = false := by
  rcases hF.dst with h | ⟨_, _, h⟩
  ·exact h.1
  ·have := (has_lt h).2; omega
 rw [hj, makesN j (by omega)] at hm
 have : j = 14 ∨ j = 17 := by
  rw [hj] at ho
  have : j = 0 ∨ j = 1 ∨ j = 2 ∨ j = 3 ∨ j = 4 ∨ j = 5 ∨ j = 6 ∨ j = 7 ∨ j = 8 ∨ j = 9 ∨ j = 10 ∨ j = 11 ∨ j = 12 ∨ j = 13 ∨ j = 14 ∨ j = 15 ∨ j = 16 ∨ j = 17 ∨ j = 25 ∨ j = 26 := by omega
  rcases this with h | h | h | h | h | h | h | h | h | h | h | h | h | h | h | h | h | h | h | h
  all_goals (subst h; first | (exact absurd hm (by decide)) | omega)
 unfold actG
 rw [hj]
 rcases this with rfl | rfl
 ·simp; by_cases h : placeG s (rG s x) (bG s x) = true <;> simp [h]
 ·simp; by_cases h : 4096 ≤ s.trace.length <;> simp [h]
theorem V_nodst {s : GS} {d : Int} {A : Act} (h : (∃ e, A = .stop e) ∨ (∃ l, A = .row l) ∨ ∃ l, A = .out l) (v : Int) : V (act s d A) v = V s v := by
 rcases h with ⟨_, rfl⟩ | ⟨_, rfl⟩ | ⟨_, rfl⟩ <;> rfl
end Go.Proofs.YtiojekbkamegdaaGreatDoor
namespace Go.Proofs.YtiojekbkamegdaaGreatDoor
open Go.Proofs.Tryz
structure SameO (s t : GS) : Prop where
 arrays : s.arrays = t.arrays
 trace : s.trace = t.trace
 ck : s.ck = t.ck
 en : s.en = t.en
 val : s.val = t.val
 tr : s.tr = t.tr
 ended : s.ended = t.ended
 blk : s.blk = t.blk
structure NumR (f : PFunc) (r : Int → Int) (rk : Nat → Nat → Nat) : Prop where
 hS : ShapedP f
 hE : EndsOk f
 hs : SingP f
 hO : OneV f
 hF : NumOk f rk
 hr : Roots f r
 run : RunP f
 rung : RunP (numF f r)
structure Sim (f : PFunc) (r : Int → Int) (s t : GS) : Prop where
 gs : GInv f s
 gt : GInv (numF f r) t
 out : SameO s t
 pc : t.pc = cq (keepI r) (blkG f s.blk).insts s.pc
 st : t.st ≤ s.st
 i1 : ∀ v : Int, 0 ≤ v → v < f.vars.length → r v = v → V s v = V t v
 i2 : ∀ i k z, NumI f i k z → Dfl s z
 i3 : ∀ i k z, NumI f i k z → AheadP f ((i : Int), (k : Int)) s.blk s.pc → Holds s z
 i4 : ∀ v : Int, 0 ≤ v → v < f.vars.length → Av f s.blk s.pc v → V s v = V t (r v)
section
variable {f : PFunc} {r : Int → Int} {rk : Nat → Nat → Nat} (hR : NumR f r rk)
include hR
theorem NumR.range {v : Int} (h : hasV f v = true) : (0 ≤ v ∧ v < f.vars.length) ∧ (0 ≤ r v ∧ r v < f.vars.length) := by
 have h1 := has_lt h
 refine ⟨⟨h1.2, h1.1⟩, ?_⟩
 by_cases hv : ∃ i k x, NumI f i k x ∧ x.dst = v
 ·obtain ⟨i, k, y, hy, rfl⟩ := hv
  rcases hR.hr.rt i k y hy with e | ⟨i', k', x, hx, _, _, e, _⟩
  ·rw [e]; exact ⟨h1.2, h1.1⟩
  ·rw [e]; exact hR.hF.hD _ _ _ hx
 ·rw [hR.hr.id v fun i k x hx e => hv ⟨i, k, x, hx, e⟩]; exact ⟨h1.2, h1.1⟩
theorem args_eq {s t : GS} (hs : Sim f r s t) {i k : Nat} {b : PBlock} {x : PInst} (hb : f.blocks[i]? = some b) (hx : b.insts[k]? = some x) (hA : ∀ v ∈ x.args, Av f s.blk s.pc v) : ArgEq s t x (mapI r x) := by
 have hF := inst_F hR.hS (w1 hb) (w1 hx)
 have key : ∀ j : Nat, j < x.args.length → V s ((x.args[j]?).getD 0) = V t (((mapI r x).args[j]?).getD 0) := fun j hj => by
  show _ = V t (((x.args.map r)[j]?).getD 0)
  rw [qy, qq hj]
  have hm := qu hj
  have := (hR.range (hF.args _ hm)).1
  exact hs.i4 _ this.1 this.2 (hA _ hm)
 exact ⟨rfl, rfl, key 0, key 1, key 2⟩
theorem ahead_args {i k : Nat} {b : PBlock} {x : PInst} (hb : f.blocks[i]? = some b) (hx : b.insts[k]? = some x) : ∀ v ∈ x.args, Av f i k v := fun v hv => by
 obtain ⟨hi, e⟩ := List.getElem?_eq_some_iff.1 hb
 obtain ⟨hk, e2⟩ := List.getElem?_eq_some_iff.1 hx
 have := (hR.hs.2.2.2 i hi).2.1
 rw [e] at this
 exact this k hk v (by rw [e2]; exact hv)
theorem not_here {i k : Nat} {b : PBlock} {x : PInst} (hb : f.blocks[i]? = some b) (hx : b.insts[k]? = some x) (hd : 0 ≤ x.dst) {v : Int} (h : Av f i k v) : v ≠ x.dst := fun e => by
 have hm := hR.hO.inst i k b x hb hx hd
 unfold Av at h
 rw [e, hm] at h
 rcases h with h | ⟨_, h⟩ | ⟨_, h, _⟩
 ·dsimp only at h; omega
 ·dsimp only at h; omega
 ·exact h rfl
theorem root_not {i k : Nat} {b : PBlock} {x : PInst} (hb : f.blocks[i]? = some b) (hx : b.insts[k]? = some x) (hd : 0 ≤ x.dst) {v : Int} (h : Av f i k v) : r v ≠ x.dst := fun e => by
 by_cases hv : ∃ j q y, NumI f j q y ∧ y.dst = v
 ·obtain ⟨j, q, y, hy, rfl⟩ := hv
  rcases hR.hr.rt j q y hy with e2 | ⟨j', q', z, hz, ha, _, e2, _⟩
  ·rw [e2] at e; exact not_here hR hb hx hd h e
  ·have hAz : Av f i k z.dst := by
    obtain ⟨c, c1, c2⟩ := hz.1
    obtain ⟨d, d1, d2⟩ := hy.1
    unfold Av at h ⊢
    rw [hR.hO.inst j q d y d1 d2 (hR.hF.hD _ _ _ hy).1] at h
    rw [hR.hO.inst j' q' c z c1 c2 (hR.hF.hD _ _ _ hz).1]
    exact ahead_trans hR.hE (p := ((j : Int), (q : Int))) ha h (by dsimp only; omega)
   rw [e2] at e
   exact not_here hR hb hx hd hAz e
 ·rw [hR.hr.id v fun i k x hx e => hv ⟨i, k, x, hx, e⟩] at e
  exact not_here hR hb hx hd h e
theorem hold_keep {s s1 : GS} (gs : GInv f s) {i k : Nat} {z : PInst} (hz : NumI f i k z) (h : Holds s z) (hv : ∀ v, v ∈ z.args ∨ v = z.dst → V s1 v = V s v) (hrow : ∀ a : Int, 0 ≤ a → a < s.arrays.length → (rowG s1 a).length = (rowG s a).length) : Holds s1 z := by
 obtain ⟨b, hb, hx⟩ := hz.1
 have hF := inst_F hR.hS (w1 hb) (w1 hx)
 have key : ∀ j : Nat, j < z.args.length → V s ((z.args[j]?).getD 0) = V s1 ((z.args[j]?).getD 0) := fun j hj => by
  rw [qq hj]
  exact (hv _ (.inl (qu hj))).symm
 have e := act_cnt (t := s1) hF hz.2 ⟨rfl, rfl, key 0, key 1, key 2⟩ fun ho h0 => by
  have hl : 0 < z.args.length := by rw [hF.argc, ho]; decide
  exact (hrow _ h0 (arr_any gs (hF.a0 hl)).2).symm
 unfold Holds at *
 rw [← e, hv _ (.inr rfl)]; exact h
theorem sim_mk {s t s1 t1 : GS} (hs : Sim f r s t) {i : Nat} {b : PBlock} {x : PInst} (hi : s.blk = (i : Int)) (hb : f.blocks[i]? = some b) (hx : b.insts[s.pc]? = some x) (hk : keepI r x = true)
  (g1 : GInv f s1) (g2 : GInv (numF f r) t1) (o : SameO s1 t1) (hblk : s1.blk = s.blk) (hpc : s1.pc = s.pc + 1) (htpc : t1.pc = t.pc + 1) (hst : t1.st ≤ s1.st)
  (hV : ∀ v : Int, 0 ≤ v → v ≠ x.dst → V s1 v = V s v ∧ V t1 v = V t v) (hVd : 0 ≤ x.dst → V s1 x.dst = V t1 x.dst) (hD : ∀ i k z, NumI f i k z → Dfl s1 z) (hrow : ∀ a : Int, 0 ≤ a → a < s.arrays.length → (rowG s1 a).length = (rowG s a).length) (hH : NumI f i s.pc x → Holds s1 x) : Sim f r s1 t1 := by
 have hAt : AtI f i s.pc x := ⟨b, hb, hx⟩
 have hblkG : blkG f s.blk = b := by rw [hi]; unfold blkG; rw [Int.toNat_natCast, hb]; rfl
 have nh : ∀ v : Int, 0 ≤ v → Av f s.blk s.pc v → V s1 v = V s v := fun v h0 hv => by
  refine (hV v h0 ?_).1
  by_cases hd : 0 ≤ x.dst
  ·rw [hi] at hv; exact not_here hR hb hx hd hv
  ·omega
 refine ⟨g1, g2, o, ?_, hst, fun v h0 h1 e => ?_, hD, fun j q z hz ha => ?_, fun v h0 h1 hv => ?_⟩
 ·rw [hblk, hpc, htpc, hs.pc, hblkG, cq_succ hx, if_pos hk]
 ·by_cases e2 : v = x.dst
  ·rw [e2]; exact hVd (by omega)
  ·rw [(hV v h0 e2).1, (hV v h0 e2).2]; exact hs.i1 v h0 h1 e
 ·rw [hblk, hpc] at ha
  rcases ahead_next.1 (show AheadP f _ s.blk ((s.pc : Int) + 1) by push_cast at ha; exact ha) with ha | ⟨e1, e2⟩
  ·refine hold_keep hR hs.gs hz (hs.i3 j q z hz ha) (fun v hv => ?_) hrow
   obtain ⟨c, c1, c2⟩ := hz.1
   have hF := inst_F hR.hS (w1 c1) (w1 c2)
   rcases hv with hv | rfl
   ·have hva := ahead_args hR c1 c2 v hv
    exact nh v (hR.range (hF.args v hv)).1.1 (ahead_trans hR.hE (p := ((j : Int), (q : Int))) hva ha (by dsimp only; omega))
   ·refine nh _ (hR.hF.hD _ _ _ hz).1 ?_
    unfold Av
    rw [hR.hO.inst j q c z c1 c2 (hR.hF.hD _ _ _ hz).1]; exact ha
  ·dsimp only at e1 e2
   obtain rfl : j = i := by omega
   obtain rfl : q = s.pc := by omega
   have := hz.1.one hAt
   subst this
   exact hH hz
 ·rw [hblk, hpc] at hv
  rw [hi] at hv
  rcases av_next hR.hO hb hx (show Av f (i : Int) ((s.pc : Int) + 1) v by push_cast at hv; exact hv) with hv | rfl
  ·have e1 : V t1 (r v) = V t (r v) := by
    have h2 : 0 ≤ r v := by
     by_cases hm : ∃ i k x, NumI f i k x ∧ x.dst = v
     ·obtain ⟨i, k, y, hy, rfl⟩ := hm
      rcases hR.hr.rt i k y hy with e | ⟨_, _, z, hz, _, _, e, _⟩
      ·rw [e]; exact h0
      ·rw [e]; exact (hR.hF.hD _ _ _ hz).1
     ·rw [hR.hr.id v fun i k x hx e => hm ⟨i, k, x, hx, e⟩]; exact h0
    refine (hV (r v) h2 ?_).2
    by_cases hd : 0 ≤ x.dst
    ·exact root_not hR hb hx hd hv
    ·omega
   rw [e1, nh v h0 (by rw [hi]; exact hv)]
   exact hs.i4 v h0 h1 (by rw [hi]; exact hv)
  ·have e : r x.dst = x.dst := by
    cases hc : cntB x.op with
    | true => unfold keepI at hk; rw [hc] at hk; simpa using hk
    | false =>
     refine hR.hr.id _ fun j q y hy e => ?_
     obtain ⟨rfl, rfl⟩ := hR.hF.hO.inst j q y i s.pc x hy.1 hAt (by omega) e
     have := hy.2
     rw [hy.1.one hAt, hc] at this; cases this
   rw [e]; exact hVd h0
end
end Go.Proofs.YtiojekbkamegdaaGreatDoor
namespace Go.Proofs.YtiojekbkamegdaaGreatDoor
open Go.Proofs.Tryz
section
variable {f : PFunc} {r : Int → Int} {rk : Nat → Nat → Nat} (hR : NumR f r rk)
theorem lens {f : PFunc} {s : GS} (h : GInv f s) : s.ints.length = f.vars.length ∧ s.bools.length = f.vars.length ∧ s.arrs.length = f.vars.length := ⟨h.li, h.lb, h.la⟩
theorem blk_at {f : PFunc} {i : Nat} {b : PBlock} (h : f.blocks[i]? = some b) : blkG f (i : Int) = b := by unfold blkG; rw [Int.toNat_natCast, h]; rfl
theorem blk_num {f : PFunc} {r : Int → Int} {i : Nat} {b : PBlock} (h : f.blocks[i]? = some b) : blkG (numF f r) (i : Int) = numB r b := blk_at (by rw [num_blk, h]; rfl)
theorem step_at {f : PFunc} {s : GS} {x : PInst} (h : (blkG f s.blk).insts[s.pc]? = some x) : stepG f s = instG { s with pc := s.pc + 1, st := s.st + 1 } x := by unfold stepG; rw [h]
theorem inst_no {s : GS} {x : PInst} (h : ¬ (18 ≤ x.op ∧ x.op ≤ 24)) : instG s x = act s x.dst (actG s x) := by unfold instG; rw [if_neg h, do_act]
theorem actG_any {P : Act → Prop} (s : GS) (x : PInst) (h1 : ∀ e, P (.stop e)) (h2 : ∀ v, P (.i v)) (h3 : ∀ v, P (.b v)) (h4 : ∀ v, P (.a v)) (h5 : ∀ v, P (.all v)) (h6 : P (.row (s.arrays.set (rG s x).toNat ((rowG s (rG s x)).set (bG s x).toNat (vi s.ints (ar2 x)))))) (h7 : ∀ q v, P (.new (s.arrays ++ [q]) v)) (h8 : ∀ l, P (.out l)) : P (actG s x) := by
 unfold actG
 repeat' (first | exact h1 _ | exact h2 _ | exact h3 _ | exact h4 _ | exact h5 _ | exact h6 | exact h7 _ _ | exact h8 _ | refine iteP (fun _=>?_) (fun _=>?_))
theorem act_rows {s : GS} {x : PInst} (a : Int) (h0 : 0 ≤ a) (h1 : a < s.arrays.length) : (rowG (act s x.dst (actG s x)) a).length = (rowG s a).length := by
 refine actG_any (P := fun A => (rowG (act s x.dst A) a).length = (rowG s a).length) s x (fun _ => Z) (fun _ => Z) (fun _ => Z) (fun _ => Z) (fun _ => Z) ?_ (fun q v => ?_) (fun _ => Z)
 ·show (((s.arrays.set (rG s x).toNat ((rowG s (rG s x)).set (bG s x).toNat (vi s.ints (ar2 x))))[a.toNat]?).getD []).length = _
  rw [List.getElem?_set]
  split
  ·rename_i hj
   split
   ·rw [Option.getD_some, List.length_set]
    unfold rowG
    rw [hj]
   ·omega
  ·rfl
 ·show (((s.arrays ++ [q])[a.toNat]?).getD []).length = _
  rw [List.getElem?_append_left (by omega)]; rfl
include hR
theorem sim_keep {s t : GS} (hs : Sim f r s t) (he : s.ended = false) {i : Nat} {b : PBlock} {x : PInst} (hi : s.blk = (i : Int)) (hb : f.blocks[i]? = some b) (hx : b.insts[s.pc]? = some x) (hk : keepI r x = true) :
  ((stepG f s).ended = true ∧ SameO (stepG f s) (stepG (numF f r) t) ∧ (stepG (numF f r) t).st ≤ (stepG f s).st) ∨ ((stepG f s).ended = false ∧ Sim f r (stepG f s) (stepG (numF f r) t)) := by
 have hF := inst_F hR.hS (w1 hb) (w1 hx)
 have g1 := hs.gs.step hR.run
 have g2 := hs.gt.step hR.rung
 have hst1 := step_st f s
 have hst2 := step_st (numF f r) t
 have hst : (stepG (numF f r) t).st ≤ (stepG f s).st := by have := hs.st; omega
 have e1 : stepG f s = instG { s with pc := s.pc + 1, st := s.st + 1 } x := step_at (by rw [hi, blk_at hb]; exact hx)
 have tb : t.blk = (i : Int) := hs.out.blk.symm.trans hi
 have e2 : stepG (numF f r) t = instG { t with pc := t.pc + 1, st := t.st + 1 } (mapI r x) := step_at (by
  rw [tb, blk_num hb, hs.pc, hi, blk_at hb]
  show ((b.insts.filter (keepI r)).map (mapI r))[_]? = _
  rw [qy, filt_at.2 ⟨s.pc, hx, hk, rfl⟩]; rfl)
 have hA : ArgEq s t x (mapI r x) := args_eq hR hs hb hx (by rw [hi]; exact ahead_args hR hb hx)
 obtain ⟨s0, hs0⟩ : ∃ s0 : GS, { s with pc := s.pc + 1, st := s.st + 1 } = s0 := ⟨_, rfl⟩
 obtain ⟨t0, ht0⟩ : ∃ t0 : GS, { t with pc := t.pc + 1, st := t.st + 1 } = t0 := ⟨_, rfl⟩
 have vs : ∀ v, V s0 v = V s v := fun v => by rw [← hs0]; rfl
 have vt : ∀ v, V t0 v = V t v := fun v => by rw [← ht0]; rfl
 have hA0 : ArgEq s0 t0 x (mapI r x) := ⟨hA.op, hA.num, fun h => by rw [vs, vt]; exact hA.a0 h, fun h => by rw [vs, vt]; exact hA.a1 h, fun h => by rw [vs, vt]; exact hA.a2 h⟩
 have o0 : SameO s0 t0 := by rw [← hs0, ← ht0]; exact ⟨hs.out.arrays, hs.out.trace, hs.out.ck, hs.out.en, hs.out.val, hs.out.tr, hs.out.ended, hs.out.blk⟩
 have en0 : s0.ended = false := by rw [← hs0]; exact he
 have pc0 : s0.pc = s.pc + 1 ∧ t0.pc = t.pc + 1 ∧ s0.blk = s.blk ∧ s0.arrays = s.arrays := by rw [← hs0, ← ht0]; exact ⟨rfl, rfl, rfl, rfl⟩
 have dfl0 : ∀ z, Dfl s z → Dfl s0 z := fun z h => by rw [← hs0]; exact h
 rw [hs0] at e1
 rw [ht0] at e2
 rw [e1] at g1 hst ⊢
 rw [e2] at g2 hst ⊢
 by_cases ho : 18 ≤ x.op ∧ x.op ≤ 24
 ·have hp : passG s0 x.op x.args = passG t0 x.op (x.args.map r) := pass_congr hF ho hA0 (qx ..).symm o0.arrays
  have hnc : cntB x.op = false := by
   cases hc : cntB x.op with
   | false => rfl
   | true => exact absurd ho (cnt_not hc)
  have i1 : instG s0 x = if passG s0 x.op x.args = true then bumpG s0 (x.op - 17).toNat else trapG (bumpG s0 (x.op - 17).toNat) (x.op - 17) := by unfold instG; rw [if_pos ho]
  have i2 : instG t0 (mapI r x) = if passG s0 x.op x.args = true then bumpG t0 (x.op - 17).toNat else trapG (bumpG t0 (x.op - 17).toNat) (x.op - 17) := by unfold instG; rw [if_pos (show 18 ≤ (mapI r x).op ∧ (mapI r x).op ≤ 24 from ho), hp]; rfl
  have ckb : ∀ n, (bumpG s0 n).ck = (bumpG t0 n).ck := fun n => by unfold bumpG; dsimp only; rw [o0.ck]
  by_cases hpass : passG s0 x.op x.args = true
  ·rw [i1, if_pos hpass] at g1 hst ⊢
   rw [i2, if_pos hpass] at g2 hst ⊢
   refine .inr ⟨en0, sim_mk hR hs hi hb hx hk g1 g2 ⟨o0.arrays, o0.trace, ckb _, o0.en, o0.val, o0.tr, o0.ended, o0.blk⟩ pc0.2.2.1 pc0.1 pc0.2.1 hst (fun v _ _ => ⟨vs v, vt v⟩) (fun hd=>?_) (fun i k z hz => dfl0 z (hs.i2 i k z hz)) (fun a _ _ => by show (rowG s0 a).length = _; rw [row_congr pc0.2.2.2]) (fun hN=>?_)⟩
   ·exfalso
    rcases hF.dst with h | ⟨hm, _, _⟩
    ·omega
    ·obtain ⟨j, hj⟩ : ∃ j : Nat, x.op = (j : Int) := ⟨x.op.toNat, by omega⟩
     rw [hj, makesN j (by omega)] at hm
     have : j = 18 ∨ j = 19 ∨ j = 20 ∨ j = 21 ∨ j = 22 ∨ j = 23 ∨ j = 24 := by omega
     rcases this with rfl | rfl | rfl | rfl | rfl | rfl | rfl <;> exact absurd hm (by decide)
   ·rw [hN.2] at hnc; cases hnc
  ·rw [i1, if_neg hpass] at g1 hst ⊢
   rw [i2, if_neg hpass] at g2 hst ⊢
   exact .inl ⟨rfl, ⟨o0.arrays, o0.trace, ckb _, rfl, o0.val, rfl, rfl, o0.blk⟩, hst⟩
 ·have hact : actG s0 x = actG t0 (mapI r x) := act_congr hF ho hA0 o0.arrays o0.trace
  have i1 : instG s0 x = act s0 x.dst (actG s0 x) := inst_no ho
  have i2 : instG t0 (mapI r x) = act t0 x.dst (actG s0 x) := by rw [hact]; exact inst_no (x := mapI r x) ho
  obtain ⟨A, hAe⟩ : ∃ A, actG s0 x = A := ⟨_, rfl⟩
  have hrow0 : ∀ a : Int, 0 ≤ a → a < s.arrays.length → (rowG (act s0 x.dst (actG s0 x)) a).length = (rowG s a).length := by
   intro a h0 h1
   rw [act_rows a h0 (by rw [pc0.2.2.2]; exact h1), row_congr pc0.2.2.2]
  rw [i1] at g1 hst ⊢
  rw [i2] at g2 hst ⊢
  have hD : ∀ i k z, NumI f i k z → Dfl (act s0 x.dst (actG s0 x)) z := fun j q z hz => by
   have hd0 := dfl0 z (hs.i2 j q z hz)
   by_cases hd : 0 ≤ x.dst
   ·refine Dfl_act (hR.hF.hD _ _ _ hz).1 hd hd0 fun e=>?_
    obtain ⟨rfl, rfl⟩ := hR.hF.hO.inst j q z i s.pc x hz.1 ⟨b, hb, hx⟩ (by omega) e
    have := hz.1.one ⟨b, hb, hx⟩
    subst this
    exact ⟨rfl, hz.2⟩
   ·have := V_nodst (s := s0) (d := x.dst) (act_nodst (s := s0) hF ho (by omega)) z.dst
    unfold V at this
    simp only [Prod.mk.injEq] at this
    unfold Dfl
    rw [this.1, this.2.1, this.2.2]; exact hd0
  have hVo : ∀ v : Int, 0 ≤ v → v ≠ x.dst → V (act s0 x.dst A) v = V s v ∧ V (act t0 x.dst A) v = V t v := fun v h0 hne => by
   by_cases hd : 0 ≤ x.dst
   ·exact ⟨(V_other hd h0 hne).trans (vs v), (V_other hd h0 hne).trans (vt v)⟩
   ·have hn := act_nodst (s := s0) hF ho (by omega)
    rw [hAe] at hn
    exact ⟨(V_nodst hn v).trans (vs v), (V_nodst hn v).trans (vt v)⟩
  have hVd : 0 ≤ x.dst → V (act s0 x.dst A) x.dst = V (act t0 x.dst A) x.dst := fun hd => by
   have hdl := (inst_dst hR.hS (w1 hb) (w1 hx)).1
   have l1 := lens hs.gs
   have l2 := lens hs.gt
   refine V_made hd hdl (by rw [← hs0]; exact l1) (by rw [← ht0]; exact l2) ?_
   rw [vs, vt]
   refine hs.i1 _ hd hdl ?_
   cases hc : cntB x.op with
   | true => unfold keepI at hk; rw [hc] at hk; simpa using hk
   | false =>
    refine hR.hr.id _ fun j q y hy e => ?_
    obtain ⟨rfl, rfl⟩ := hR.hF.hO.inst j q y i s.pc x hy.1 ⟨b, hb, hx⟩ (by omega) e
    have := hy.2
    rw [hy.1.one ⟨b, hb, hx⟩, hc] at this; cases this
  have hH : NumI f i s.pc x → (act s0 x.dst A).ended = false → Holds (act s0 x.dst A) x := fun hN hen => by
   have hdx := hR.hF.hD _ _ _ hN
   have hw : ∃ w, valA (actG s0 x) = some w := by
    rcases cnt_act (s := s0) hN.2 with ⟨v, e, _⟩ | ⟨v, e, _⟩ | ⟨v, e, _⟩ | e
    ·exact ⟨_, by rw [e]; rfl⟩
    ·exact ⟨_, by rw [e]; rfl⟩
    ·exact ⟨_, by rw [e]; rfl⟩
    ·rw [← hAe, e] at hen; cases hen
   obtain ⟨w, hw⟩ := hw
   have l1 := lens hs.gs
   have hVx := V_cnt (s := s0) hdx.1 hdx.2 (by rw [← hs0]; exact l1) hN.2 (dfl0 x (hs.i2 _ _ _ hN)) hw
   have key : ∀ j : Nat, j < x.args.length → V s0 ((x.args[j]?).getD 0) = V (act s0 x.dst A) ((x.args[j]?).getD 0) := fun j hj => by
    rw [qq hj]
    have hm := qu hj
    have hv := ahead_args hR hb hx _ hm
    exact (V_other hdx.1 (hR.range (hF.args _ hm)).1.1 (not_here hR hb hx hdx.1 hv)).symm
   have e := act_cnt (s := s0) (t := act s0 x.dst A) hF hN.2 ⟨rfl, rfl, key 0, key 1, key 2⟩ fun ho2 h0 => by
    have hl : 0 < x.args.length := by rw [hF.argc, ho2]; decide
    have hlt : rG s0 x < s.arrays.length := by
     have := (arr_any hs.gs (hF.a0 hl)).2
     rw [← hs0]; exact this
    rw [← hAe, hrow0 _ h0 hlt, row_congr pc0.2.2.2]
   unfold Holds
   rw [← e, hw, ← hAe, hVx]
  rw [hAe] at g1 g2 hst hD hrow0 ⊢
  cases hen : (act s0 x.dst A).ended with
  | true =>
   refine .inl ⟨Z, ?_, hst⟩
   cases A <;> first | exact ⟨o0.arrays, o0.trace, o0.ck, rfl, o0.val, o0.tr, rfl, o0.blk⟩ | exact ⟨o0.arrays, o0.trace, o0.ck, o0.en, o0.val, o0.tr, o0.ended, o0.blk⟩ | exact ⟨rfl, o0.trace, o0.ck, o0.en, o0.val, o0.tr, o0.ended, o0.blk⟩ | exact ⟨o0.arrays, rfl, o0.ck, o0.en, o0.val, o0.tr, o0.ended, o0.blk⟩
  | false =>
   refine .inr ⟨Z, sim_mk hR hs hi hb hx hk g1 g2 ?_ ?_ ?_ ?_ hst hVo hVd hD hrow0 (fun hN => hH hN hen)⟩
   ·cases A <;> first | (cases hen; done) | exact ⟨o0.arrays, o0.trace, o0.ck, o0.en, o0.val, o0.tr, o0.ended, o0.blk⟩ | exact ⟨rfl, o0.trace, o0.ck, o0.en, o0.val, o0.tr, o0.ended, o0.blk⟩ | exact ⟨o0.arrays, rfl, o0.ck, o0.en, o0.val, o0.tr, o0.ended, o0.blk⟩
   ·cases A <;> exact pc0.2.2.1
   ·cases A <;> exact pc0.1
   ·cases A <;> exact pc0.2.1
end
end Go.Proofs.YtiojekbkamegdaaGreatDoor
namespace Go.Proofs.YtiojekbkamegdaaGreatDoor
open Go.Proofs.Tryz
section
variable {f : PFunc} {r : Int → Int} {rk : Nat → Nat → Nat} (hR : NumR f r rk)
include hR
theorem sim_drop {s t : GS} (hs : Sim f r s t) (he : s.ended = false) {i : Nat} {b : PBlock} {x : PInst} (hi : s.blk = (i : Int)) (hb : f.blocks[i]? = some b) (hx : b.insts[s.pc]? = some x) (hk : keepI r x = false) :
  (stepG f s).ended = false ∧ Sim f r (stepG f s) t ∧ (stepG f s).blk = s.blk ∧ (stepG f s).pc = s.pc + 1 := by
 have hF := inst_F hR.hS (w1 hb) (w1 hx)
 have hc : cntB x.op = true := by unfold keepI at hk; cases h : cntB x.op <;> simp [h] at hk ⊢
 have hN : NumI f i s.pc x := ⟨⟨b, hb, hx⟩, hc⟩
 have hne : r x.dst ≠ x.dst := by unfold keepI at hk; rw [hc] at hk; simpa using hk
 have hdx := hR.hF.hD _ _ _ hN
 have g1 := hs.gs.step hR.run
 have hst1 := step_st f s
 have e1 : stepG f s = instG { s with pc := s.pc + 1, st := s.st + 1 } x := step_at (by rw [hi, blk_at hb]; exact hx)
 obtain ⟨s0, hs0⟩ : ∃ s0 : GS, { s with pc := s.pc + 1, st := s.st + 1 } = s0 := ⟨_, rfl⟩
 have vs : ∀ v, V s0 v = V s v := fun v => by rw [← hs0]; rfl
 have pc0 : s0.pc = s.pc + 1 ∧ s0.blk = s.blk ∧ s0.arrays = s.arrays ∧ s0.trace = s.trace ∧ s0.ck = s.ck ∧ s0.en = s.en ∧ s0.val = s.val ∧ s0.tr = s.tr ∧ s0.ended = s.ended := by rw [← hs0]; exact ⟨rfl, rfl, rfl, rfl, rfl, rfl, rfl, rfl, rfl⟩
 have dfl0 : ∀ z, Dfl s z → Dfl s0 z := fun z h => by rw [← hs0]; exact h
 rw [hs0, inst_no (cnt_not hc)] at e1
 have hA := ahead_args hR hb hx
 have avA : ∀ v ∈ x.args, Av f s.blk s.pc v := by rw [hi]; exact hA
 rcases hR.hr.rt i s.pc x hN with e | ⟨i', k', x0, hx0, ha0, rx0, er, hsame⟩
 ·exact absurd e hne
 obtain ⟨c, c1, c2⟩ := hx0.1
 have hF0 := inst_F hR.hS (w1 c1) (w1 c2)
 have hd0 := hR.hF.hD _ _ _ hx0
 have hold0 := hs.i3 i' k' x0 hx0 (by rw [hi]; exact ha0)
 have av0 : ∀ v ∈ x0.args, Av f s.blk s.pc v := fun v hv => by
  rw [hi]; exact ahead_trans hR.hE (p := ((i' : Int), (k' : Int))) (ahead_args hR c1 c2 v hv) ha0 (by dsimp only; omega)
 have a1 : actG s x0 = actG t (mapI r x0) := act_congr hF0 (cnt_not hx0.2) (args_eq hR hs c1 c2 av0) hs.out.arrays hs.out.trace
 have a2 : actG s x = actG t (mapI r x) := act_congr hF (cnt_not hc) (args_eq hR hs hb hx avA) hs.out.arrays hs.out.trace
 have a3 : actG t (mapI r x0) = actG t (mapI r x) := by
  obtain ⟨_, ⟨s1, s2⟩, s3⟩ := sameI_iff.1 hsame
  rcases s3 with s3 | ⟨s4, s5, s6⟩
  ·have hrow : ∀ v, V t v = V t v := fun _ => rfl
   have e0 : ar0 (mapI r x0) = ar0 (mapI r x) := by unfold ar0; rw [s3]
   have e1 : ar1 (mapI r x0) = ar1 (mapI r x) := by unfold ar1; rw [s3]
   have e2 : ar2 (mapI r x0) = ar2 (mapI r x) := by unfold ar2; rw [s3]
   unfold actG aG bG pG qG rG
   rw [s1, s2, e0, e1, e2]
  ·match h1 : (mapI r x0).args, h2 : (mapI r x).args with
   | [a, b], [c, d] =>
    rw [h1, h2] at s6
    simp at s6
    exact act_comm s4 s1 s2 (a := a) (b := b) h1 (by rw [h2, s6.1, s6.2])
   | [], _ => rw [h1] at s5; simp at s5
   | [_], _ => rw [h1] at s5; simp at s5
   | _ :: _ :: _ :: _, _ => rw [h1] at s5; simp at s5
   | [_, _], [] => rw [h1, h2] at s6; simp at s6
   | [_, _], [_] => rw [h1, h2] at s6; simp at s6
   | [_, _], _ :: _ :: _ :: _ => rw [h1, h2] at s6; have := congrArg List.length s6; simp at this
 have a0 : actG s0 x = actG s x := by rw [← hs0]; rfl
 have hw : valA (actG s0 x) = some (V s x0.dst) := by rw [a0, a2, ← a3, ← a1]; exact hold0
 have l1 := lens hs.gs
 have hVx := V_cnt (s := s0) hdx.1 hdx.2 (by rw [← hs0]; exact l1) hc (dfl0 x (hs.i2 _ _ _ hN)) hw
 have hother : ∀ v : Int, 0 ≤ v → v ≠ x.dst → V (stepG f s) v = V s v := fun v h0 h => by rw [e1]; exact (V_other hdx.1 h0 h).trans (vs v)
 have hD : ∀ j q z, NumI f j q z → Dfl (stepG f s) z := fun j q z hz => by
  rw [e1]
  refine Dfl_act (hR.hF.hD _ _ _ hz).1 hdx.1 (dfl0 z (hs.i2 j q z hz)) fun e=>?_
  obtain ⟨rfl, rfl⟩ := hR.hF.hO.inst j q z i s.pc x hz.1 hN.1 (hR.hF.hD _ _ _ hz).1 e
  have := hz.1.one hN.1
  subst this
  exact ⟨rfl, hz.2⟩
 have fields : (stepG f s).ended = false ∧ (stepG f s).blk = s.blk ∧ (stepG f s).pc = s.pc + 1 ∧ SameO (stepG f s) t := by
  rw [e1]
  rcases cnt_act (s := s0) hc with ⟨v, e, _⟩ | ⟨v, e, _⟩ | ⟨v, e, _⟩ | e
  ·rw [e]; exact ⟨pc0.2.2.2.2.2.2.2.2.trans he, pc0.2.1, pc0.1, ⟨pc0.2.2.1.trans hs.out.arrays, pc0.2.2.2.1.trans hs.out.trace, pc0.2.2.2.2.1.trans hs.out.ck, pc0.2.2.2.2.2.1.trans hs.out.en, pc0.2.2.2.2.2.2.1.trans hs.out.val, pc0.2.2.2.2.2.2.2.1.trans hs.out.tr, pc0.2.2.2.2.2.2.2.2.trans hs.out.ended, pc0.2.1.trans hs.out.blk⟩⟩
  ·rw [e]; exact ⟨pc0.2.2.2.2.2.2.2.2.trans he, pc0.2.1, pc0.1, ⟨pc0.2.2.1.trans hs.out.arrays, pc0.2.2.2.1.trans hs.out.trace, pc0.2.2.2.2.1.trans hs.out.ck, pc0.2.2.2.2.2.1.trans hs.out.en, pc0.2.2.2.2.2.2.1.trans hs.out.val, pc0.2.2.2.2.2.2.2.1.trans hs.out.tr, pc0.2.2.2.2.2.2.2.2.trans hs.out.ended, pc0.2.1.trans hs.out.blk⟩⟩
  ·rw [e]; exact ⟨pc0.2.2.2.2.2.2.2.2.trans he, pc0.2.1, pc0.1, ⟨pc0.2.2.1.trans hs.out.arrays, pc0.2.2.2.1.trans hs.out.trace, pc0.2.2.2.2.1.trans hs.out.ck, pc0.2.2.2.2.2.1.trans hs.out.en, pc0.2.2.2.2.2.2.1.trans hs.out.val, pc0.2.2.2.2.2.2.2.1.trans hs.out.tr, pc0.2.2.2.2.2.2.2.2.trans hs.out.ended, pc0.2.1.trans hs.out.blk⟩⟩
  ·rw [e] at hw; cases hw
 obtain ⟨f1, f2, f3, f4⟩ := fields
 have hrow : ∀ a : Int, 0 ≤ a → a < s.arrays.length → (rowG (stepG f s) a).length = (rowG s a).length := fun a _ _ => by rw [row_congr (f4.arrays.trans hs.out.arrays.symm)]
 have nh : ∀ v : Int, 0 ≤ v → Av f s.blk s.pc v → V (stepG f s) v = V s v := fun v h0 hv => hother v h0 (by rw [hi] at hv; exact not_here hR hb hx hdx.1 hv)
 refine ⟨f1, ⟨g1, hs.gt, f4, ?_, by have := hs.st; omega, fun v h0 h1 e => ?_, hD, fun j q z hz ha => ?_, fun v h0 h1 hv => ?_⟩, f2, f3⟩
 ·rw [f2, f3, hs.pc, hi, blk_at hb, cq_succ hx, if_neg (by rw [hk]; decide)]; rfl
 ·rw [hother v h0 (fun e2 => hne (by rw [← e2]; exact e))]; exact hs.i1 v h0 h1 e
 ·rw [f2, f3] at ha
  rcases ahead_next.1 (show AheadP f _ s.blk ((s.pc : Int) + 1) by push_cast at ha; exact ha) with ha | ⟨q1, q2⟩
  ·refine hold_keep hR hs.gs hz (hs.i3 j q z hz ha) (fun v hv => ?_) hrow
   obtain ⟨d, d1, d2⟩ := hz.1
   have hFz := inst_F hR.hS (w1 d1) (w1 d2)
   rcases hv with hv | rfl
   ·exact nh v (hR.range (hFz.args v hv)).1.1 (ahead_trans hR.hE (p := ((j : Int), (q : Int))) (ahead_args hR d1 d2 v hv) ha (by dsimp only; omega))
   ·refine nh _ (hR.hF.hD _ _ _ hz).1 ?_
    unfold Av
    rw [hR.hO.inst j q d z d1 d2 (hR.hF.hD _ _ _ hz).1]; exact ha
  ·dsimp only at q1 q2
   obtain rfl : j = i := by omega
   obtain rfl : q = s.pc := by omega
   have := hz.1.one hN.1
   subst this
   have key : ∀ j : Nat, j < z.args.length → V s ((z.args[j]?).getD 0) = V (stepG f s) ((z.args[j]?).getD 0) := fun j hj => by
    rw [qq hj]
    have hm := qu hj
    exact (nh _ (hR.range (hF.args _ hm)).1.1 (avA _ hm)).symm
   have e := act_cnt (s := s) (t := stepG f s) hF hc ⟨rfl, rfl, key 0, key 1, key 2⟩ fun _ _ => by rw [row_congr (f4.arrays.trans hs.out.arrays.symm)]
   unfold Holds
   rw [← e, ← a0, hw, e1, hVx]
 ·rw [f2, f3, hi] at hv
  rcases av_next hR.hO hb hx (show Av f (i : Int) ((s.pc : Int) + 1) v by push_cast at hv; exact hv) with hv | rfl
  ·rw [nh v h0 (by rw [hi]; exact hv)]
   exact hs.i4 v h0 h1 (by rw [hi]; exact hv)
  ·rw [e1, hVx, er]; exact hs.i1 _ hd0.1 hd0.2 rx0
end
end Go.Proofs.YtiojekbkamegdaaGreatDoor
namespace Go.Proofs.YtiojekbkamegdaaGreatDoor
open Go.Proofs.Tryz
theorem phiAt_num (r : Int → Int) (p : PPhi) (b : Int) : phiAt (numPh r p) b = ((p.from_.zip p.args).find? fun q => decide (q.1 = b)).elim (-1) (fun q => r q.2) := by
 unfold phiAt numPh
 dsimp only
 rw [show p.from_.zip (p.args.map r) = (p.from_.zip p.args).map (Prod.map _root_.id r) from List.zip_map_right .., List.find?_map]
 have : ((fun q : Int × Int => decide (q.1 = b)) ∘ Prod.map _root_.id r) = fun q => decide (q.1 = b) := rfl
 rw [this]
 cases (p.from_.zip p.args).find? fun q => decide (q.1 = b) <;> rfl
theorem phi_found {p : PPhi} {b : Int} (hl : p.args.length = p.from_.length) (hb : b ∈ p.from_) : ∃ a, (p.from_.zip p.args).find? (fun q => decide (q.1 = b)) = some (b, a) ∧ (a, b) ∈ p.args.zip p.from_ ∧ a ∈ p.args := by
 obtain ⟨j, hj, e⟩ := List.getElem_of_mem hb
 have hm : (p.from_[j], p.args[j]'(by omega)) ∈ p.from_.zip p.args := by
  refine List.mem_iff_getElem.2 ⟨j, by rw [List.length_zip]; omega, ?_⟩
  rw [List.getElem_zip]
 cases h : (p.from_.zip p.args).find? (fun q => decide (q.1 = b)) with
 | none => exact absurd (List.find?_eq_none.1 h _ hm) (by simp [e])
 | some q =>
  have h1 : q.1 = b := by simpa using List.find?_some h
  have h2 := List.mem_of_find?_eq_some h
  obtain ⟨k, hk, e2⟩ := List.mem_iff_getElem.1 h2
  rw [List.getElem_zip] at e2
  rw [List.length_zip] at hk
  subst h1
  refine ⟨q.2, Z, List.mem_iff_getElem.2 ⟨k, by rw [List.length_zip]; omega, by rw [List.getElem_zip, ← e2]⟩, ?_⟩
  rw [← e2]; exact qu _
theorem assign_act (s t : GS) (p : PPhi) : assign s t p = act t p.dst (.all (V s (phiAt p s.blk))) := rfl
theorem V_assign {s t : GS} {p : PPhi} {n : Nat} (h0 : 0 ≤ p.dst) (h1 : p.dst < n) (l : t.ints.length = n ∧ t.bools.length = n ∧ t.arrs.length = n) : V (assign s t p) p.dst = V s (phiAt p s.blk) := by
 rw [assign_act]
 unfold V act
 simp only [stI, stB, stA]
 rw [vi_eq h0 (by omega), gb_eq h0 (by omega), vi_eq h0 (by omega)]
theorem V_folds {s t : GS} (g : PPhi → PPhi) {n : Nat} {v : Int} (hv : 0 ≤ v) : ∀ (l : List PPhi) (s1 t1 : GS), (∀ p ∈ l, (0 ≤ p.dst ∧ p.dst < n) ∧ (g p).dst = p.dst) → (s1.ints.length = n ∧ s1.bools.length = n ∧ s1.arrs.length = n) → (t1.ints.length = n ∧ t1.bools.length = n ∧ t1.arrs.length = n) →
  ((∀ p ∈ l, p.dst ≠ v) ∧ V (l.foldl (assign s) s1) v = V s1 v ∧ V ((l.map g).foldl (assign t) t1) v = V t1 v) ∨ ∃ p ∈ l, p.dst = v ∧ V (l.foldl (assign s) s1) v = V s (phiAt p s.blk) ∧ V ((l.map g).foldl (assign t) t1) v = V t (phiAt (g p) t.blk)
 | [], s1, t1, _, _, _ => .inl ⟨fun _ h => (by cases h), rfl, rfl⟩
 | p :: l, s1, t1, h, l1, l2 => by
  obtain ⟨⟨d0, d1⟩, dg⟩ := h p (.head _)
  have l3 : (assign s s1 p).ints.length = n ∧ (assign s s1 p).bools.length = n ∧ (assign s s1 p).arrs.length = n := by rw [assign_act]; unfold act; simp [stI, stB, stA, l1]
  have l4 : (assign t t1 (g p)).ints.length = n ∧ (assign t t1 (g p)).bools.length = n ∧ (assign t t1 (g p)).arrs.length = n := by rw [assign_act]; unfold act; simp [stI, stB, stA, l2]
  rw [List.map_cons, List.foldl_cons, List.foldl_cons]
  rcases V_folds g hv l (assign s s1 p) (assign t t1 (g p)) (fun q hq => h q (.tail _ hq)) l3 l4 with ⟨h1, h2, h3⟩ | ⟨q, hq, e, h2, h3⟩
  ·by_cases e : p.dst = v
   ·refine .inr ⟨p, .head _, e, ?_, ?_⟩
    ·rw [h2, ← e, V_assign d0 d1 l1]
    ·rw [h3, ← e, ← dg]; exact V_assign (by omega) (by omega) l2
   ·refine .inl ⟨fun q hq => ?_, ?_, ?_⟩
    ·rcases List.mem_cons.1 hq with rfl | hq
     ·exact e
     ·exact h1 q hq
    ·rw [h2, assign_act]; exact V_other d0 hv (fun h => e h.symm)
    ·rw [h3, assign_act, dg]; exact V_other d0 hv (fun h => e h.symm)
  ·exact .inr ⟨q, .tail _ hq, e, h2, h3⟩
section
variable {f : PFunc} {r : Int → Int} {rk : Nat → Nat → Nat} (hR : NumR f r rk)
include hR
theorem r_nn {v : Int} (h0 : 0 ≤ v) : 0 ≤ r v := by
 by_cases hm : ∃ i k x, NumI f i k x ∧ x.dst = v
 ·obtain ⟨i, k, y, hy, rfl⟩ := hm
  rcases hR.hr.rt i k y hy with e | ⟨_, _, z, hz, _, _, e, _⟩
  ·rw [e]; exact h0
  ·rw [e]; exact (hR.hF.hD _ _ _ hz).1
 ·rw [hR.hr.id v fun i k x hx e => hm ⟨i, k, x, hx, e⟩]; exact h0
theorem phi_root {i : Nat} {b : PBlock} {p : PPhi} (hb : f.blocks[i]? = some b) (hp : p ∈ b.phis) {v : Int} (h0 : 0 ≤ v) (e : r v = p.dst) : v = p.dst := by
 by_cases hm : ∃ i k x, NumI f i k x ∧ x.dst = v
 ·obtain ⟨j, k, y, hy, rfl⟩ := hm
  rcases hR.hr.rt j k y hy with e2 | ⟨j', k', z, hz, _, _, e2, _⟩
  ·rw [e2] at e; exact e
  ·rw [e2] at e
   exact absurd e.symm (hR.hF.hO.phi j' k' z i b p hz.1 hb hp (hR.hF.hD _ _ _ hz).1)
 ·rw [hR.hr.id v fun i k x hx e => hm ⟨i, k, x, hx, e⟩] at e; exact e
theorem phi_self {i : Nat} {b : PBlock} {p : PPhi} (hb : f.blocks[i]? = some b) (hp : p ∈ b.phis) : r p.dst = p.dst :=
 hR.hr.id _ fun j k x hx e => hR.hF.hO.phi j k x i b p hx.1 hb hp (hR.hF.hD _ _ _ hx).1 e.symm
theorem sim_enter {s t s0 t0 : GS} (hs : Sim f r s t) {i to : Nat} {b c : PBlock} (hi : s.blk = (i : Int)) (hb : f.blocks[i]? = some b) (hpc : s.pc = b.insts.length) (hto : (to : Int) ∈ EndsOf f (i : Int)) (hc : f.blocks[to]? = some c)
  (vs : ∀ v, V s0 v = V s v) (vt : ∀ v, V t0 v = V t v) (o0 : SameO s0 t0) (bs : s0.blk = s.blk) (ars : s0.arrays = s.arrays) (l1 : s0.ints.length = f.vars.length ∧ s0.bools.length = f.vars.length ∧ s0.arrs.length = f.vars.length) (l2 : t0.ints.length = f.vars.length ∧ t0.bools.length = f.vars.length ∧ t0.arrs.length = f.vars.length)
  (hst : t0.st ≤ s0.st) (hd0 : ∀ z, Dfl s z → Dfl s0 z) (g1 : GInv f (enterG f s0 to)) (g2 : GInv (numF f r) (enterG (numF f r) t0 to)) (en0 : s0.ended = false) : (enterG f s0 to).ended = false ∧ Sim f r (enterG f s0 to) (enterG (numF f r) t0 to) := by
 have hrch := hR.hs.2.1 i (List.getElem?_eq_some_iff.1 hb).1
 have hcl := (List.getElem?_eq_some_iff.1 hc).1
 have hce := (List.getElem?_eq_some_iff.1 hc).2
 have hcm := w1 hc
 have hbl := lenAt_get hb
 have hG := hR.hE.grph
 have bt : t0.blk = (i : Int) := by rw [← o0.blk, bs, hi]
 have found : ∀ p ∈ c.phis, ∃ a, (p.from_.zip p.args).find? (fun q => decide (q.1 = (i : Int))) = some ((i : Int), a) ∧ phiAt p (i : Int) = a ∧ phiAt (numPh r p) (i : Int) = r a ∧ (0 ≤ a ∧ a < f.vars.length) ∧ Av f (i : Int) (b.insts.length : Int) a := fun p hp => by
  obtain ⟨p1, p2, p3, p4, p5⟩ := (hR.hS.2.2.2.2.2 c hcm).1 p hp
  have hj := hR.hs.1 to hcl p (by rw [hce]; exact hp)
  have him : (i : Int) ∈ p.from_ := hj.mem_iff.2 ((mem_predsT hG.toEOk (fun x hx => EndsOf_out hx)).2 hto)
  obtain ⟨a, h1, h2, h3⟩ := phi_found p2 him
  have ha := has_lt (List.all_eq_true.1 p4 a h3)
  refine ⟨a, h1, by unfold phiAt; rw [h1]; rfl, by rw [phiAt_num, h1]; rfl, ⟨ha.2, ha.1⟩, ?_⟩
  have := (hR.hs.2.2.2 to hcl).1 p (by rw [hce]; exact hp) (a, (i : Int)) h2
  dsimp only at this
  rw [hbl] at this
  exact this
 have all1 : (blkG f (to : Int)).phis.all (fun p => decide (0 ≤ phiAt p s0.blk)) = true := by
  rw [blk_at hc, w7]
  intro p hp
  obtain ⟨a, _, h2, _, h4, _⟩ := found p hp
  rw [bs, hi, h2]; exact w4 h4.1
 have all2 : (blkG (numF f r) (to : Int)).phis.all (fun p => decide (0 ≤ phiAt p t0.blk)) = true := by
  rw [blk_num hc, w7]
  intro q hq
  obtain ⟨p, hp, rfl⟩ := List.mem_map.1 hq
  obtain ⟨a, _, _, h3, h4, _⟩ := found p hp
  rw [bt, h3]; exact w4 (r_nn hR h4.1)
 have e1 : enterG f s0 to = goG (c.phis.foldl (assign s0) s0) to := by unfold enterG; rw [if_pos all1, blk_at hc]
 have e2 : enterG (numF f r) t0 to = goG ((c.phis.map (numPh r)).foldl (assign t0) t0) to := by unfold enterG; rw [if_pos all2, blk_num hc]; rfl
 have k1 := assigns_keep s0 c.phis s0
 have k2 := assigns_keep t0 (c.phis.map (numPh r)) t0
 have dst : ∀ p ∈ c.phis, (0 ≤ p.dst ∧ p.dst < f.vars.length) ∧ (numPh r p).dst = p.dst := fun p hp => by
  have := has_lt ((hR.hS.2.2.2.2.2 c hcm).1 p hp).1
  exact ⟨⟨this.2, this.1⟩, rfl⟩
 have same : ∀ (s t : GS) (l : List PPhi), (l.foldl (assign s) t).arrays = t.arrays ∧ (l.foldl (assign s) t).trace = t.trace ∧ (l.foldl (assign s) t).en = t.en ∧ (l.foldl (assign s) t).val = t.val ∧ (l.foldl (assign s) t).tr = t.tr := fun s t l => by
  induction l generalizing t with
  | nil => exact ⟨rfl, rfl, rfl, rfl, rfl⟩
  | cons p l ih => rw [List.foldl_cons]; exact ih (assign s t p)
 rw [e1] at g1 ⊢
 rw [e2] at g2 ⊢
 have hV : ∀ v : Int, 0 ≤ v → ((∀ p ∈ c.phis, p.dst ≠ v) ∧ V (goG (c.phis.foldl (assign s0) s0) to) v = V s v ∧ V (goG ((c.phis.map (numPh r)).foldl (assign t0) t0) to) v = V t v) ∨ ∃ p ∈ c.phis, p.dst = v ∧ V (goG (c.phis.foldl (assign s0) s0) to) v = V (goG ((c.phis.map (numPh r)).foldl (assign t0) t0) to) v := fun v h0 => by
  rcases V_folds (s := s0) (t := t0) (numPh r) h0 c.phis s0 t0 dst l1 l2 with ⟨h1, h2, h3⟩ | ⟨p, hp, e, h2, h3⟩
  ·exact .inl ⟨h1, h2.trans (vs v), h3.trans (vt v)⟩
  ·refine .inr ⟨p, hp, e, ?_⟩
   obtain ⟨a, _, q2, q3, q4, q5⟩ := found p hp
   show V (c.phis.foldl (assign s0) s0) v = V ((c.phis.map (numPh r)).foldl (assign t0) t0) v
   rw [h2, h3, bs, hi, q2, bt, q3, vs, vt]
   refine hs.i4 a q4.1 q4.2 ?_
   rw [hi, hpc]; exact q5
 have nophi : ∀ j k z, NumI f j k z → ∀ p ∈ c.phis, p.dst ≠ z.dst := fun j k z hz p hp => hR.hF.hO.phi j k z to c p hz.1 hc hp (hR.hF.hD _ _ _ hz).1
 have hVz : ∀ j k z, NumI f j k z → V (goG (c.phis.foldl (assign s0) s0) to) z.dst = V s z.dst := fun j k z hz => by
  rcases hV z.dst (hR.hF.hD _ _ _ hz).1 with ⟨_, h, _⟩ | ⟨p, hp, e, _⟩
  ·exact h
  ·exact absurd e (nophi j k z hz p hp)
 refine ⟨k1.2.2.trans en0, ⟨g1, g2, ⟨?_, ?_, k1.2.1.trans (o0.ck.trans k2.2.1.symm), ?_, ?_, ?_, k1.2.2.trans (o0.ended.trans k2.2.2.symm), Z⟩, Z, ?_, fun v h0 h1 e => ?_, fun j k z hz => ?_, fun j k z hz ha => ?_, fun v h0 h1 hv => ?_⟩⟩
 ·exact (same s0 s0 _).1.trans (o0.arrays.trans (same t0 t0 _).1.symm)
 ·exact (same s0 s0 _).2.1.trans (o0.trace.trans (same t0 t0 _).2.1.symm)
 ·exact (same s0 s0 _).2.2.1.trans (o0.en.trans (same t0 t0 _).2.2.1.symm)
 ·exact (same s0 s0 _).2.2.2.1.trans (o0.val.trans (same t0 t0 _).2.2.2.1.symm)
 ·exact (same s0 s0 _).2.2.2.2.trans (o0.tr.trans (same t0 t0 _).2.2.2.2.symm)
 ·show ((c.phis.map (numPh r)).foldl (assign t0) t0).st ≤ (c.phis.foldl (assign s0) s0).st
  rw [k1.1, k2.1]; exact hst
 ·rcases hV v h0 with ⟨_, q1, q2⟩ | ⟨p, _, _, q⟩
  ·rw [q1, q2]; exact hs.i1 v h0 h1 e
  ·exact q
 ·have := hVz j k z hz
  unfold V at this
  simp only [Prod.mk.injEq] at this
  have hD := hs.i2 j k z hz
  unfold Dfl at *
  rw [this.1, this.2.1, this.2.2]; exact hD
 ·have ha : AheadP f ((j : Int), (k : Int)) (to : Int) 0 := ha
  obtain ⟨d, d1, d2⟩ := hz.1
  have hmk := hR.hO.inst j k d z d1 d2 (hR.hF.hD _ _ _ hz).1
  have hab : AheadP f ((j : Int), (k : Int)) s.blk s.pc := by
   have : Av f (to : Int) 0 z.dst := by unfold Av; rw [hmk]; exact ha
   rcases av_enter hrch hto this with h | h
   ·rw [hmk] at h; simp only [Prod.mk.injEq] at h; omega
   ·unfold Av at h
    rw [hmk, hbl] at h
    rw [hi, hpc]; exact h
  refine hold_keep hR hs.gs hz (hs.i3 j k z hz hab) (fun v hv => ?_) (fun a _ _ => ?_)
  ·rcases hv with hv | rfl
   ·have hFz := inst_F hR.hS (w1 d1) (w1 d2)
    have hv0 := (hR.range (hFz.args v hv)).1.1
    rcases hV v hv0 with ⟨_, h, _⟩ | ⟨p, hp, e, _⟩
    ·exact h
    ·exfalso
     have hva := ahead_args hR d1 d2 v hv
     unfold Av at hva
     rw [← e, hR.hO.phi to c p hc hp] at hva
     rcases hva with h | ⟨h1, h2⟩ | ⟨_, h1, h2⟩
     ·dsimp only at h; omega
     ·dsimp only at h1
      rcases ha with h | ⟨_, h⟩ | ⟨_, h, _⟩
      ·dsimp only at h; omega
      ·dsimp only at h; omega
      ·exact h h1.symm
     ·dsimp only at h1 h2
      rcases ha with h | ⟨h, _⟩ | ⟨_, h, h3⟩
      ·dsimp only at h; omega
      ·exact h1 h.symm
      ·exact h1 (dom_anti hG h2 h3)
   ·exact hVz j k z hz
  ·exact congrArg List.length (row_congr (s := goG (c.phis.foldl (assign s0) s0) to) (t := s) ((same s0 s0 c.phis).1.trans ars) a)
 ·have hv : Av f (to : Int) 0 v := hv
  rcases hV v h0 with ⟨q0, q1, q2⟩ | ⟨p, hp, e, q⟩
  ·have hav : Av f s.blk s.pc v := by
    rcases av_enter hrch hto hv with h | h
    ·exfalso
     obtain ⟨j, d, d1, d2, d3⟩ := maker_shape (f := f) (v := v) (by rw [h]; exact Int.natCast_nonneg to)
     rw [h] at d2 d3
     dsimp only at d2
     obtain rfl : to = j := by omega
     rw [hc] at d1
     cases d1
     rcases d3 with ⟨p, hp, e, _⟩ | ⟨k, x, _, _, e⟩
     ·exact q0 p hp e
     ·dsimp only at e; omega
    ·rw [hi, hpc, ← hbl]; exact h
   have hr2 : V (goG ((c.phis.map (numPh r)).foldl (assign t0) t0) to) (r v) = V t (r v) := by
    rcases hV (r v) (r_nn hR h0) with ⟨_, _, h⟩ | ⟨p, hp, e, _⟩
    ·exact h
    ·exact absurd (phi_root hR hc hp h0 e.symm).symm (q0 p hp)
   rw [q1, hr2]; exact hs.i4 v h0 h1 hav
  ·rw [← e, phi_self hR hc hp, e]; exact q
end
end Go.Proofs.YtiojekbkamegdaaGreatDoor
namespace Go.Proofs.YtiojekbkamegdaaGreatDoor
open Go.Proofs.Tryz
theorem run_step {f : PFunc} {s : GS} (h : s.ended = false) (n : Nat) : runG f (n + 1) s = runG f n (stepG f s) := by rw [runG, if_neg (by rw [h]; decide)]
theorem run_add (f : PFunc) (k : Nat) : ∀ (m : Nat) (s : GS), runG f (m + k) s = runG f k (runG f m s)
 | 0, s => by rw [Nat.zero_add]; rfl
 | m + 1, s => by
  cases h : s.ended with
  | true => rw [run_ended h, run_ended h, run_ended h]
  | false => rw [show m + 1 + k = (m + k) + 1 by omega, run_step h, run_step h, run_add f k m]
theorem run_more {f : PFunc} {s : GS} {m n : Nat} (h : (runG f m s).ended = true) (hn : m ≤ n) : runG f n s = runG f m s := by
 obtain ⟨k, rfl⟩ : ∃ k, n = m + k := ⟨n - m, by omega⟩
 rw [run_add, run_ended h]
theorem step_en {f : PFunc} {s : GS} (h : s.en = 3) : (stepG f s).ended = true ∨ (stepG f s).en = 3 := by
 unfold stepG
 split
 ·rename_i x _
  unfold instG
  split
  ·split
   ·exact .inr h
   ·exact .inl rfl
  ·rw [do_act]
   cases actG { s with pc := s.pc + 1, st := s.st + 1 } x <;> first | exact .inl rfl | exact .inr h
 ·split
  ·exact .inl rfl
  ·unfold enterG
   split
   ·right
    have : ∀ (s t : GS) (l : List PPhi), (l.foldl (assign s) t).en = t.en := fun s t l => by
     induction l generalizing t with
     | nil => rfl
     | cons p l ih => rw [List.foldl_cons]; exact ih (assign s t p)
    exact (this _ _ _).trans h
   ·exact .inl rfl
theorem run_en {f : PFunc} : ∀ (n : Nat) (s : GS), s.en = 3 → (runG f n s).en ≠ 3 → (runG f n s).ended = true
 | 0, s, h, h2 => absurd h h2
 | n + 1, s, h, h2 => by
  cases he : s.ended with
  | true => rw [run_ended he]; exact he
  | false =>
   rw [run_step he] at h2 ⊢
   rcases step_en (f := f) h with h3 | h3
   ·rw [run_ended h3]; exact h3
   ·exact run_en n _ h3 h2
section
variable {f : PFunc} {r : Int → Int} {rk : Nat → Nat → Nat} (hR : NumR f r rk)
include hR
theorem sim_term {s t : GS} (hs : Sim f r s t) (he : s.ended = false) {i : Nat} {b : PBlock} (hi : s.blk = (i : Int)) (hb : f.blocks[i]? = some b) (hx : b.insts[s.pc]? = none) :
  ((stepG f s).ended = true ∧ SameO (stepG f s) (stepG (numF f r) t) ∧ (stepG (numF f r) t).st ≤ (stepG f s).st) ∨ ((stepG f s).ended = false ∧ Sim f r (stepG f s) (stepG (numF f r) t)) := by
 have hbm := w1 hb
 have hib := List.getElem?_eq_some_iff.1 hb
 have hpc : s.pc = b.insts.length := by
  have h1 := hs.gs.pc
  rw [hi, blk_at hb] at h1
  have := List.getElem?_eq_none_iff.1 hx
  omega
 have tb : t.blk = (i : Int) := hs.out.blk.symm.trans hi
 have tn : (numB r b).insts[t.pc]? = none := by
  refine List.getElem?_eq_none ?_
  have := cq_all r b
  rw [hs.pc, hi, blk_at hb, hpc]; omega
 have g1 := hs.gs.step hR.run
 have g2 := hs.gt.step hR.rung
 have hst : (stepG (numF f r) t).st ≤ (stepG f s).st := by rw [step_st, step_st]; have := hs.st; omega
 have e1 : stepG f s = if b.term.kind = 2 then stopG { s with st := s.st + 1, val := vi s.ints b.term.var } 0 else enterG f { s with st := s.st + 1 } (nextG f s) := by
  unfold stepG; rw [hi, blk_at hb, hx]
 have e2 : stepG (numF f r) t = if b.term.kind = 2 then stopG { t with st := t.st + 1, val := vi t.ints (numTm r b.term).var } 0 else enterG (numF f r) { t with st := t.st + 1 } (nextG (numF f r) t) := by
  unfold stepG; rw [tb, blk_num hb, tn]; rfl
 have htm := (hR.hS.2.2.2.2.2 b hbm).2.2
 have var : ¬ b.term.kind = 0 → V s b.term.var = V t (numTm r b.term).var := fun hk => by
  have hv : hasV f b.term.var = true := by
   unfold termOK at htm
   rw [if_neg hk] at htm
   split at htm
   ·simp only [w6] at htm; exact htm.1.1
   ·split at htm
    ·simp only [w6] at htm; exact htm.1
    ·cases htm
  have := (hR.range hv).1
  have hav := (hR.hs.2.2.2 i hib.1).2.2
  rw [hib.2] at hav
  rw [show (numTm r b.term).var = r b.term.var by unfold numTm; dsimp only; rw [if_neg hk]]
  exact hs.i4 _ this.1 this.2 (by rw [hi, hpc]; exact hav.resolve_left hk)
 rw [e1] at g1 hst ⊢
 rw [e2] at g2 hst ⊢
 by_cases hk : b.term.kind = 2
 ·rw [if_pos hk] at g1 g2 hst ⊢
  rw [if_pos hk] at hst ⊢
  have hv := var (by omega)
  unfold V at hv
  simp only [Prod.mk.injEq] at hv
  exact .inl ⟨rfl, ⟨hs.out.arrays, hs.out.trace, hs.out.ck, rfl, hv.1, hs.out.tr, rfl, hs.out.blk⟩, hst⟩
 ·rw [if_neg hk] at g1 g2 hst ⊢
  rw [if_neg hk] at hst ⊢
  right
  have hnx : nextG (numF f r) t = nextG f s := by
   unfold nextG
   rw [tb, hi, blk_num hb, blk_at hb]
   show (if b.term.kind = 0 ∨ gb t.bools (numTm r b.term).var = true then b.term.to0 else b.term.to1) = _
   by_cases h0 : b.term.kind = 0
   ·rw [if_pos (.inl h0), if_pos (.inl h0)]
   ·have hv := var h0
    unfold V at hv
    simp only [Prod.mk.injEq] at hv
    rw [← hv.2.1]
  obtain ⟨t0', t1'⟩ := term_to htm hk
  have hto : ∃ to : Nat, nextG f s = (to : Int) ∧ (to : Int) ∈ EndsOf f (i : Int) ∧ to < f.blocks.length := by
   have hends : EndsOf f (i : Int) = endsL b.term := by rw [EndsOf_nat hib.1, hib.2]
   unfold nextG
   rw [hi, blk_at hb, hends]
   unfold endsL
   by_cases h0 : b.term.kind = 0
   ·rw [if_pos (.inl h0), if_pos h0]
    exact ⟨b.term.to0.toNat, by omega, by rw [w8 t0'.1]; exact .head _, by omega⟩
   ·obtain ⟨k1, t2⟩ := t1' h0
    rw [if_neg h0, if_pos k1]
    by_cases hq : gb s.bools b.term.var = true
    ·rw [if_pos (.inr hq)]
     refine ⟨b.term.to0.toNat, by omega, ?_, by omega⟩
     rw [w8 t0'.1]
     split <;> exact .head _
    ·rw [if_neg (by rintro (h | h); exact h0 h; exact hq h)]
     refine ⟨b.term.to1.toNat, by omega, ?_, by omega⟩
     rw [w8 t2.1]
     split
     ·rename_i e; rw [e]; exact .head _
     ·exact .tail _ (.head _)
  obtain ⟨to, hte, hmem, hlt⟩ := hto
  rw [hnx, hte] at g2 ⊢
  rw [hte] at g1
  have l1 := lens hs.gs
  have l2 := lens hs.gt
  exact sim_enter hR hs hi hb hpc hmem (qq hlt) (fun _ => rfl) (fun _ => rfl) ⟨hs.out.arrays, hs.out.trace, hs.out.ck, hs.out.en, hs.out.val, hs.out.tr, hs.out.ended, hs.out.blk⟩ rfl rfl l1 l2 (by have := hs.st; show t.st + 1 ≤ s.st + 1; omega) (fun _ h => h) g1 g2 he
omit hR in
theorem sim_place {s t : GS} (hs : Sim f r s t) : ∃ (i : Nat) (b : PBlock), s.blk = (i : Int) ∧ f.blocks[i]? = some b := by
 have h0 := hs.gs.b0
 have h1 := hs.gs.b1
 exact ⟨s.blk.toNat, f.blocks[s.blk.toNat]'(by omega), by omega, qq (by omega)⟩
theorem run_fwd : ∀ (n : Nat) (s t : GS), Sim f r s t → s.ended = false → (runG f n s).ended = true → ∃ m, m ≤ n ∧ SameO (runG f n s) (runG (numF f r) m t) ∧ (runG (numF f r) m t).st ≤ (runG f n s).st
 | 0, s, t, _, he, h => by have h : s.ended = true := h; rw [he] at h; cases h
 | n + 1, s, t, hs, he, h => by
  obtain ⟨i, b, hi, hb⟩ := sim_place hs
  have te : t.ended = false := by rw [← hs.out.ended]; exact he
  rw [run_step he] at h ⊢
  have both : ((stepG f s).ended = true ∧ SameO (stepG f s) (stepG (numF f r) t) ∧ (stepG (numF f r) t).st ≤ (stepG f s).st) ∨ ((stepG f s).ended = false ∧ Sim f r (stepG f s) (stepG (numF f r) t)) → ∃ m, m ≤ n + 1 ∧ SameO (runG f n (stepG f s)) (runG (numF f r) m t) ∧ (runG (numF f r) m t).st ≤ (runG f n (stepG f s)).st := by
   rintro (⟨h1, h2, h3⟩ | ⟨h1, h2⟩)
   ·refine ⟨1, by omega, ?_⟩
    rw [run_ended h1, run_step te]
    exact ⟨h2, h3⟩
   ·obtain ⟨m, hm, h3⟩ := run_fwd n _ _ h2 h1 h
    exact ⟨m + 1, by omega, by rw [run_step te]; exact h3⟩
  cases hx : b.insts[s.pc]? with
  | none => exact both (sim_term hR hs he hi hb hx)
  | some x =>
   cases hk : keepI r x with
   | true => exact both (sim_keep hR hs he hi hb hx hk)
   | false =>
    obtain ⟨h1, h2, _⟩ := sim_drop hR hs he hi hb hx hk
    obtain ⟨m, hm, h3⟩ := run_fwd n _ _ h2 h1 h
    exact ⟨m, by omega, h3⟩
theorem settleN : ∀ (d : Nat) (s t : GS), Sim f r s t → s.ended = false → (blkG f s.blk).insts.length - s.pc ≤ d → ∃ j, j ≤ d ∧ Sim f r (runG f j s) t ∧ (runG f j s).ended = false ∧ ∀ x, (blkG f (runG f j s).blk).insts[(runG f j s).pc]? = some x → keepI r x = true
 | d, s, t, hs, he, hd => by
  obtain ⟨i, b, hi, hb⟩ := sim_place hs
  cases hx : (blkG f s.blk).insts[s.pc]? with
  | none => exact ⟨0, by omega, hs, he, fun x h => by rw [show runG f 0 s = s from rfl, hx] at h; cases h⟩
  | some x =>
   cases hk : keepI r x with
   | true => exact ⟨0, by omega, hs, he, fun y h => by rw [show runG f 0 s = s from rfl, hx] at h; cases h; exact hk⟩
   | false =>
    have hx2 : b.insts[s.pc]? = some x := by rw [hi, blk_at hb] at hx; exact hx
    obtain ⟨h1, h2, h3, h4⟩ := sim_drop hR hs he hi hb hx2 hk
    have hlt := (List.getElem?_eq_some_iff.1 hx).1
    match d, hd with
    | 0, hd => omega
    | d + 1, hd =>
     obtain ⟨j, hj, q⟩ := settleN d (stepG f s) t h2 h1 (by rw [h3, h4]; omega)
     exact ⟨j + 1, by omega, by rw [run_step he]; exact q⟩
theorem run_bwd {I : Nat} (hI : ∀ b ∈ f.blocks, b.insts.length ≤ I) : ∀ (n : Nat) (s t : GS), Sim f r s t → s.ended = false → (runG (numF f r) n t).ended = true → ∃ m, m ≤ n * (I + 1) ∧ SameO (runG f m s) (runG (numF f r) n t) ∧ (runG f m s).ended = true
 | 0, s, t, hs, he, h => by have h : t.ended = true := h; rw [← hs.out.ended, he] at h; cases h
 | n + 1, s, t, hs, he, h => by
  have te : t.ended = false := by rw [← hs.out.ended]; exact he
  rw [run_step te] at h ⊢
  obtain ⟨i0, b0, hi0, hb0⟩ := sim_place hs
  obtain ⟨j, hj, h1, h2, h3⟩ := settleN hR I s t hs he (by rw [hi0, blk_at hb0]; have := hI b0 (w1 hb0); omega)
  obtain ⟨s2, hs2⟩ : ∃ s2, runG f j s = s2 := ⟨_, rfl⟩
  rw [hs2] at h1 h2 h3
  obtain ⟨i, b, hi, hb⟩ := sim_place h1
  have both : ((stepG f s2).ended = true ∧ SameO (stepG f s2) (stepG (numF f r) t) ∧ (stepG (numF f r) t).st ≤ (stepG f s2).st) ∨ ((stepG f s2).ended = false ∧ Sim f r (stepG f s2) (stepG (numF f r) t)) := by
   cases hx : b.insts[s2.pc]? with
   | none => exact sim_term hR h1 h2 hi hb hx
   | some x => exact sim_keep hR h1 h2 hi hb hx (h3 x (by rw [hi, blk_at hb]; exact hx))
  rw [Nat.add_mul, Nat.one_mul]
  rcases both with ⟨q1, q2, _⟩ | ⟨q1, q2⟩
  ·have te1 : (stepG (numF f r) t).ended = true := by rw [← q2.ended]; exact q1
   refine ⟨j + 1, by omega, ?_⟩
   rw [run_add, hs2, run_step h2, run_ended te1]
   exact ⟨q2, q1⟩
  ·obtain ⟨m, hm, q3⟩ := run_bwd hI n _ _ q2 q1 h
   refine ⟨j + (m + 1), by omega, ?_⟩
   rw [run_add, hs2, run_step h2]
   exact q3
end
end Go.Proofs.YtiojekbkamegdaaGreatDoor
