/- Programs under other numbers, and in part: blocks, variables, pairs. The one form. No conditions. -/
import Derived.Test.YtpojdepccecpgaaGreatDoorZf
import Derived.Test.YtpojdepccecpgaaGreatDoorZd
import Derived.Test.YtpojdepccecpgaaGreatDoorZh
import Derived.Lib.MapLaws
import Derived.Test.YtpojdepccecpgaaGreatDoorZe
import Derived.Test.YtpojdepccecpgaaGreatDoorZa
set_option linter.unusedVariables false
set_option linter.unusedSimpArgs false
set_option linter.unusedSectionVars false
namespace Go.Proofs.YtpojdepccecpgaaGreatDoor
open Go.Proofs.Tryz
open Go.Proofs Go.Lib Go.Shelf Go.RowKit
set_option maxRecDepth 20000
variable {E : World}
def letterC (c : Int) : Bool := isLetterU c && !decide (c = 65533)
def digitC (c : Int) : Bool := decide (48 ≤ c) && decide (c ≤ 57)
def innerC (c : Int) : Bool := letterC c || (digitC c || (decide (c = 46) || decide (c = 95)))
theorem zletter_spec (c : Int) (h1 : -2147483648 ≤ c) (h2 : c ≤ 2147483647) (hL : Letters E) : AFun prog E 188 [.int .i32 c] (.bool (letterC c)) := by
 refine zl func188 Z (by decide) Z<|zSr<|zVzAb Z<|z6<|zSr<|zVzMi Z<|ze (letter_spec c h1 h2 hL) Z<|zVzMb Z<|zp (s := 5) Z (fun c1=>?_) (fun c1=>?_)
 ·refine za Z Z c1<|zVzMi Z<|za Z Z c1<|zVGvneqI Z Z<|zVzPt Z c1 Z<|zVzAb Z<|z6<|zh<|zj (x := .bool _) Z ?_
  exact jb (by simp_all [letterC])
 ·refine z8 Z Z c1<|z8 Z Z c1<|zVzPf Z c1 Z<|zVzAb Z<|z6<|zh<|zj (x := .bool _) Z ?_
  exact jb (by simp_all [letterC])
theorem zdigit_spec (c : Int) : AFun prog E 195 [.int .i32 c] (.bool (digitC c)) := by
 refine zl func195 Z (by decide) Z<|zSr<|zVzAb Z<|z6<|zSr<|zVzMi Z<|z7 (yz Z Z)<|zVzMb Z<|zp (s := 5) Z (fun c2=>?_) (fun c2=>?_)
 ·refine za Z Z c2<|zVzMi Z<|za Z Z c2<|z7 (Gv.leq Z Z)<|zVzPt Z c2 Z<|zVzAb Z<|z6<|zh<|zj (x := .bool _) Z ?_
  exact jb (by simp_all [digitC] <;> (intros; omega))
 ·refine z8 Z Z c2<|z8 Z Z c2<|zVzPf Z c2 Z<|zVzAb Z<|z6<|zh<|zj (x := .bool _) Z ?_
  exact jb (by simp_all [digitC] <;> (intros; omega))
theorem zinner_spec (c : Int) (h1 : -2147483648 ≤ c) (h2 : c ≤ 2147483647) (hL : Letters E) : AFun prog E 189 [.int .i32 c] (.bool (innerC c)) := by
 refine zl func189 Z (by decide) Z<|zSr<|zVzAb Z<|z6<|zSr<|zVzMi Z<|ze (zletter_spec c h1 h2 hL) Z<|zVzMb Z<|zp (s := 5) Z (fun c3=>?_) (fun c3=>?_)
 ·refine z8 Z Z c3<|z8 Z Z c3<|zVzPt Z c3 Z<|zVzMb Z<|z8 Z Z Z<|z8 Z Z Z<|zVzPt Z Z Z<|zVzMb Z<|z8 Z Z Z<|z8 Z Z Z<|zVzPt Z Z Z<|zVzAb Z<|z6<|zh<|zj (x := .bool _) Z ?_
  exact jb (by simp_all [innerC])
 ·refine za Z Z c3<|zVzMi Z<|za Z Z c3<|ze (zdigit_spec _) Z<|zVzPf Z c3 Z<|zVzMb Z<|zp (s := 9) Z (fun c4=>?_) (fun c4=>?_)
  ·refine z8 Z Z c4<|z8 Z Z c4<|zVzPt Z c4 Z<|zVzMb Z<|z8 Z Z Z<|z8 Z Z Z<|zVzPt Z Z Z<|zVzAb Z<|z6<|zh<|zj (x := .bool _) Z ?_
   exact jb (by simp_all [innerC])
  ·refine za Z Z c4<|zVzMi Z<|za Z Z c4<|zVGveqlI Z Z<|zVzPf Z c4 Z<|zVzMb Z<|zp (s := 13) Z (fun c5=>?_) (fun c5=>?_)
   ·refine z8 Z Z c5<|z8 Z Z c5<|zVzPt Z c5 Z<|zVzAb Z<|z6<|zh<|zj (x := .bool _) Z ?_
    exact jb (by simp_all [innerC])
   ·refine za Z Z c5<|zVzMi Z<|za Z Z c5<|zVGveqlI Z Z<|zVzPf Z c5 Z<|zVzAb Z<|z6<|zh<|zj (x := .bool _) Z ?_
    exact jb (by simp_all [innerC])
def runesFrom (s : ByteArray) (p : Nat) : List Int := if h : p < s.size then ((Utf8.decode s p).1 : Int) :: runesFrom s (p + (Utf8.decode s p).2) else []
termination_by s.size - p
decreasing_by have := (decode_ok s p).1; omega
theorem runesFrom_lt {s : ByteArray} {p : Nat} (h : p < s.size) : runesFrom s p = ((Utf8.decode s p).1 : Int) :: runesFrom s (p + (Utf8.decode s p).2) := by rw [runesFrom, dif_pos h]
theorem runesFrom_ge {s : ByteArray} {p : Nat} (h : ¬ p < s.size) : runesFrom s p = [] := by rw [runesFrom, dif_neg h]
theorem runesFrom_len (s : ByteArray) : ∀ k p, s.size - p ≤ k → (runesFrom s p).length ≤ k := by
 intro k
 induction k with
 | zero => intro p h; rw [runesFrom_ge (by omega)]; simp
 | succ k ih =>
  intro p h
  by_cases hp : p < s.size
  ·rw [runesFrom_lt hp]
   have := (decode_ok s p).1
   have := ih (p + (Utf8.decode s p).2) (by omega)
   simp; omega
  ·rw [runesFrom_ge hp]; simp
theorem runes_spec (s : ByteArray) (hs : s.size ≤ 140737488355328) : AFun prog E 190 [.str s] (.int .i64 (runesFrom s 0).length) := by
 have h0 := runesFrom_len s s.size 0 (by omega)
 refine zl func190 Z (by decide) Z<|zSr<|zVzAi Z<|z6<|zSr<|zVzAi Z<|z6<|zb<|zSr<|z7 (y3 (v := .str _) Z)<|AOps.rangeT jx Z<|fun i5 => z6<|zd<|zt (γ := Nat × Nat) [5] (fun g => [(3, .int .i64 g.2)]) (fun g => [(i5, .iter s g.1)]) (fun g => g.2 + (runesFrom s g.1).length = (runesFrom s 0).length) (fun g => s.size - g.1) (0, 0) zR1 zLe (by simp) ?_
 rintro ⟨p, n⟩ hp
 try dsimp only at *
 by_cases hlt : p < s.size
 ·have hd := (decode_ok s p).1
  rw [runesFrom_lt hlt] at hp
  simp only [List.length_cons] at hp
  refine zSr<|AOps.nextT Z .head hlt<|z7 (zXb Z Z)<|z6<|zb<|ym Z Z<|zf<|zd<|zRg<|zVzMi Z<|zVzAd Z Z<|zVzAi Z<|z6 ?_
  exact ⟨(p + (Utf8.decode s p).2, n + 1), zR1, zR1, zLe, by dsimp only; omega, by dsimp only; omega⟩
 ·rw [runesFrom_ge hlt] at hp
  simp only [List.length_nil] at hp
  refine zSr<|AOps.nextTover Z .head hlt<|z7 (zXb Z Z)<|z6<|zb<|yf Z Z<|zr<|zSr<|zVzMi Z<|zVzAi Z<|z6<|zh<|zj (x := .int _ _) Z ?_
  exact congrArg (AV.int .i64) (by omega)
def nmGo (s : ByteArray) (p : Nat) : Bool := if h : p < s.size then (if (decide (p = 0) && !letterC ((Utf8.decode s p).1 : Int)) || !innerC ((Utf8.decode s p).1 : Int) then false else nmGo s (p + (Utf8.decode s p).2)) else (decide (¬ s = ⟨#[]⟩) && decide (((runesFrom s 0).length : Int) ≤ 16))
termination_by s.size - p
decreasing_by have := (decode_ok s p).1; omega
def scanName (s : ByteArray) : Bool := nmGo s 0
theorem zname_spec (s : ByteArray) (hs : s.size ≤ 140737488355328) (hL : Letters E) : AFun prog E 170 [.str s] (.bool (scanName s)) := by
 refine zl func170 Z (by decide) Z<|zSr<|zVzAb Z<|z6<|zb<|zSr<|z7 (y3 (v := .str _) Z)<|AOps.rangeT jx Z<|fun i6 => z6<|zd<|zt (γ := Nat) [0, 6] (fun p => []) (fun p => [(i6, .iter s p)]) (fun p => nmGo s p = scanName s) (fun p => s.size - p) 0 trivial zLe (Z) ?_
 rintro p hp
 by_cases hlt : p < s.size
 ·obtain ⟨hd1, hd2⟩ := decode_ok s p
  have hstep := hp
  rw [nmGo, dif_pos hlt] at hstep
  refine zSr<|AOps.nextT Z .head hlt<|z7 (zXb Z Z)<|z6<|zb<|ym Z Z<|zf<|zd<|zSr<|z7 (zXi Z Z)<|z7 (zXi Z Z)<|zVzAi Z<|zVzAi Z<|z6<|zSr<|zVzMi Z<|zVGveqlI Z Z<|zVzMb Z<|zp (s := 13) Z (fun c6=>?_) (fun c6=>?_)
  ·refine za Z Z c6<|zVzMi Z<|za Z Z c6<|ze (zletter_spec _ (by omega) (by omega) hL) Z<|za Z Z c6<|zVGvnot Z<|zVzPt Z c6 Z<|zVzMb Z<|zp (s := 18) Z (fun c7=>?_) (fun c7=>?_)
   ·refine z8 Z Z c7<|z8 Z Z c7<|z8 Z Z c7<|zVzPt Z c7 Z<|z6<|ym Z Z<|zSr<|zVzAb Z<|z6<|zh<|zj (x := .bool _) Z ?_
    rw [if_pos (by simp_all <;> omega)] at hstep; exact jb hstep
   ·refine za Z Z c7<|zVzMi Z<|za Z Z c7<|ze (zinner_spec _ (by omega) (by omega) hL) Z<|za Z Z c7<|zVGvnot Z<|zVzPf Z c7 Z<|z6<|zz Z (fun c8=>?_) (fun c8=>?_)
    ·refine zSr<|zVzAb Z<|z6<|zh<|zj (x := .bool _) Z ?_
     rw [if_pos (by simp_all <;> omega)] at hstep; exact jb hstep
    ·refine zf ?_
     exact ⟨p + (Utf8.decode s p).2, zR2, trivial, zLe, by rw [if_neg (by simp_all <;> omega)] at hstep; exact hstep, by omega⟩
  ·refine z8 Z Z c6<|z8 Z Z c6<|z8 Z Z c6<|zVzPf Z c6 Z<|zVzMb Z<|za Z Z Z<|zVzMi Z<|za Z Z Z<|ze (zinner_spec _ (by omega) (by omega) hL) Z<|za Z Z Z<|zVGvnot Z<|zVzPf Z Z Z<|z6<|zz Z (fun c9=>?_) (fun c9=>?_)
   ·refine zSr<|zVzAb Z<|z6<|zh<|zj (x := .bool _) Z ?_
    rw [if_pos (by simp_all <;> omega)] at hstep; exact jb hstep
   ·refine zf ?_
    exact ⟨p + (Utf8.decode s p).2, zR2, trivial, zLe, by rw [if_neg (by simp_all <;> omega)] at hstep; exact hstep, by omega⟩
 ·rw [nmGo, dif_neg hlt] at hp
  refine zSr<|AOps.nextTover Z .head hlt<|z7 (zXb Z Z)<|z6<|zb<|yf Z Z<|zr<|zSr<|z7 (y3 (v := .str _) Z)<|z7 (Gv.neqT Z Z)<|zVzMb Z<|zp (s := 25) Z (fun c10=>?_) (fun c10=>?_)
  ·refine za Z Z c10<|z7 (y3 (v := .str _) Z)<|za Z Z c10<|ze (runes_spec _ (by assumption)) Z<|za Z Z c10<|z7 (Gv.leq Z Z)<|zVzPt Z c10 Z<|zVzAb Z<|z6<|zh<|zj (x := .bool _) Z ?_
   rw [← hp]; exact jb (by simp_all <;> (try omega))
  ·refine z8 Z Z c10<|z8 Z Z c10<|z8 Z Z c10<|zVzPf Z c10 Z<|zVzAb Z<|z6<|zh<|zj (x := .bool _) Z ?_
   rw [← hp]; exact jb (by simp_all <;> (try omega))
end Go.Proofs.YtpojdepccecpgaaGreatDoor
namespace Go.Proofs.YtpojdepccecpgaaGreatDoor
open Go.Proofs.Tryz
open Go.Proofs Go.Lib Go.Shelf Go.RowKit
set_option maxRecDepth 20000
variable {E : World}
def tyWord (t : Int) : ByteArray := if t = 0 then ⟨#[105, 110, 116]⟩ else if t = 1 then ⟨#[98, 111, 111, 108]⟩ else if t = 2 then ⟨#[97, 114, 114]⟩ else ⟨#[]⟩
theorem strL_of (s : ByteArray) : strL s.data.toList = s := by unfold strL; simp
def nameR : List Int → Bool
 | [] => false
 | c :: rs => letterC c && (rs.all innerC && decide (rs.length + 1 ≤ 16))
theorem letter_inner {c : Int} (h : letterC c = true) : innerC c = true := by unfold innerC; rw [h]; rfl
theorem nmGo_pos (s : ByteArray) : ∀ (n p : Nat), s.size - p ≤ n → 0 < p → p ≤ s.size → nmGo s p = ((runesFrom s p).all innerC && decide ((runesFrom s 0).length ≤ 16)) := by
 intro n
 induction n with
 | zero =>
  intro p h hp hps
  have hne : ¬ s = ⟨#[]⟩ := fun e => by subst e; have : p ≤ 0 := hps; omega
  rw [nmGo, dif_neg (by omega), runesFrom_ge (p := p) (by omega)]
  simp [hne]; omega
 | succ n ih =>
  intro p h hp hps
  by_cases hlt : p < s.size
  ·have hd := (decode_ok s p).1
   have hw : p + (Utf8.decode s p).2 ≤ s.size := by
    have := decodeL_le (s.data.toList.drop p) (by intro e; have := congrArg List.length e; rw [List.length_drop] at this; have h2 : s.data.toList.length = s.size := Array.length_toList; simp only [List.length_nil] at this; omega)
    rw [decodeL_drop, List.length_drop] at this
    have h2 : s.data.toList.length = s.size := Array.length_toList
    omega
   rw [nmGo, dif_pos hlt, runesFrom_lt hlt, List.all_cons]
   have hp0 : decide (p = 0) = false := qm (by omega)
   rw [hp0, Bool.false_and, Bool.false_or]
   cases hi : innerC ((Utf8.decode s p).1 : Int) with
   | false => simp
   | true => rw [if_neg (by simp), ih _ (by omega) (by omega) hw]; simp
  ·have hne : ¬ s = ⟨#[]⟩ := fun e => by subst e; have : p ≤ 0 := hps; omega
   rw [nmGo, dif_neg hlt, runesFrom_ge (p := p) hlt]
   simp [hne]; omega
theorem step_le {s : ByteArray} {p : Nat} (hlt : p < s.size) : p + (Utf8.decode s p).2 ≤ s.size := by
 have h2 : s.data.toList.length = s.size := Array.length_toList
 have := decodeL_le (s.data.toList.drop p) (by intro e; have := congrArg List.length e; rw [List.length_drop] at this; simp only [List.length_nil] at this; omega)
 rw [decodeL_drop, List.length_drop] at this
 omega
theorem scanName_R (s : ByteArray) : scanName s = nameR (runesFrom s 0) := by
 unfold scanName
 by_cases hlt : 0 < s.size
 ·have hd := (decode_ok s 0).1
  have hw := step_le hlt
  have hr := runesFrom_lt hlt
  have hl := congrArg List.length hr
  rw [List.length_cons] at hl
  rw [nmGo, dif_pos hlt]
  have h2 : nameR (runesFrom s 0) = (letterC ((Utf8.decode s 0).1 : Int) && ((runesFrom s (0 + (Utf8.decode s 0).2)).all innerC && decide ((runesFrom s (0 + (Utf8.decode s 0).2)).length + 1 ≤ 16))) := by rw [hr]; rfl
  rw [h2]
  cases hc : letterC ((Utf8.decode s 0).1 : Int) with
  | false => simp
  | true =>
   rw [letter_inner hc, if_neg (by simp), nmGo_pos s _ _ (Nat.le_refl _) (by omega) hw, hl]; rfl
 ·rw [nmGo, dif_neg hlt, runesFrom_ge hlt]
  have : s = ⟨#[]⟩ := by
   have h2 : s.data.toList.length = s.size := Array.length_toList
   have h3 : s.data.toList = [] := List.eq_nil_of_length_eq_zero (by omega)
   rw [← strL_of s, h3]; rfl
  simp [this, nameR]
theorem cnt_end (k : Nat) : (decide ((1 : Int) ≤ ((k + 1 : Nat) : Int)) && decide (((k + 1 : Nat) : Int) ≤ 16)) = (([] : List Int).all innerC && decide (k + 1 + ([] : List Int).length ≤ 16)) := by
 rw [ql (by omega), Bool.true_and]
 show _ = (true && _)
 rw [Bool.true_and, decide_eq_decide]
 show ((k + 1 : Nat) : Int) ≤ 16 ↔ k + 1 + 0 ≤ 16
 omega
theorem nameFrom_pos (s : ByteArray) : ∀ (n p k : Nat), s.size - p ≤ n → nameFrom s p (k + 1) = ((runesFrom s p).all innerC && decide (k + 1 + (runesFrom s p).length ≤ 16)) := by
 intro n
 induction n with
 | zero =>
  intro p k h
  rw [nameFrom, dif_neg (by omega), runesFrom_ge (by omega)]
  exact cnt_end k
 | succ n ih =>
  intro p k h
  by_cases hlt : p < s.size
  ·have hd := (decode_ok s p).1
   rw [nameFrom, dif_pos hlt, runesFrom_lt hlt, List.all_cons]
   have ho : okRune ((Utf8.decode s p).1 : Int) (k + 1) = innerC ((Utf8.decode s p).1 : Int) := by
    unfold okRune innerC letterC digitC
    have : decide (((k + 1 : Nat) : Int) = 0) = false := qm (by omega)
    rw [this]; simp [Bool.or_assoc]
   rw [ho]
   cases hi : innerC ((Utf8.decode s p).1 : Int) with
   | false => simp
   | true => rw [if_pos rfl, ih _ _ (by omega), Bool.true_and, List.length_cons]; congr 2; simp; omega
  ·rw [nameFrom, dif_neg hlt, runesFrom_ge hlt]
   exact cnt_end k
theorem nameB_R (s : ByteArray) : nameB s = nameR (runesFrom s 0) := by
 unfold nameB
 by_cases hlt : 0 < s.size
 ·rw [nameFrom, dif_pos hlt, runesFrom_lt hlt]
  have ho : okRune ((Utf8.decode s 0).1 : Int) 0 = letterC ((Utf8.decode s 0).1 : Int) := by unfold okRune letterC; simp
  rw [ho]
  show _ = (letterC ((Utf8.decode s 0).1 : Int) && _)
  cases hc : letterC ((Utf8.decode s 0).1 : Int) with
  | false => simp
  | true => rw [if_pos rfl, nameFrom_pos s _ _ _ (Nat.le_refl _), Bool.true_and]; congr 2; simp; omega
 ·rw [nameFrom, dif_neg hlt, runesFrom_ge hlt]; rfl
theorem name_eq (s : ByteArray) : nameB s = scanName s := by rw [nameB_R, scanName_R]
structure InstF (f : PFunc) (x : PInst) : Prop where
 op : 0 ≤ x.op ∧ x.op ≤ 26
 len : x.args.length = (takesL x.op).length
 dst : (makesB x.op = false ∧ x.dst = -1) ∨ (makesB x.op = true ∧ x.dst ≠ -1 ∧ hasV f x.dst = true)
 num : isNum x.op = false → x.num = 0
 args : ∀ a ∈ x.args, hasV f a = true
theorem instP_F {f : PFunc} {x : PInst} (h : InstP f x) : InstF f x := by
 obtain ⟨h1, h2, h3, h4⟩ := h
 have hw := wordB_num ⟨h1, h2⟩
 unfold bad2 at h3
 simp only [Bool.or_eq_false_iff, Bool.not_eq_false', qp, Bool.and_eq_false_iff, beq_iff_eq] at h3
 obtain ⟨g1, g2, g3, g4⟩ := h3
 refine ⟨⟨h1, h2⟩, by rw [takes_len]; omega, ?_, fun hn=>?_, List.all_eq_true.1 h4⟩
 ·rw [makesB_eq]
  by_cases hd : x.dst = -1
  ·left
   rw [ql hd] at g2
   exact ⟨by rw [g2]; rfl, hd⟩
  ·right
   rw [qm hd] at g2
   refine ⟨by rw [g2]; rfl, hd, ?_⟩
   rcases g3 with g | g
   ·exact absurd g hd
   ·exact g
 ·rcases g4 with g | g
  ·exact g
  ·rw [hw, hn] at g; cases g
theorem tyWord_spec (t : Int) : AFun prog E 100 [.int .i64 t] (.str (tyWord t)) := by
 refine zl func100 Z (by decide) Z<|zSr<|z7 (zq (v := .str _) Z)<|z6<|zb<|zSr<|zVzMi Z<|z6<|zd<|zSr<|zVGveqlI Z Z<|zVzAb Z<|z6<|zz Z (fun c1=>?_) (fun c1=>?_)
 ·refine zSr<|z7 (zq (v := .str _) Z)<|z6<|zh<|zj (x := .str _) Z ?_
  exact congrArg AV.str (by simp_all [tyWord])
 ·refine zSr<|zVGveqlI Z Z<|zVzAb Z<|z6<|zz Z (fun c2=>?_) (fun c2=>?_)
  ·refine zSr<|z7 (zq (v := .str _) Z)<|z6<|zh<|zj (x := .str _) Z ?_
   exact congrArg AV.str (by simp_all [tyWord])
  ·refine zSr<|zVGveqlI Z Z<|zVzAb Z<|z6<|zz Z (fun c3=>?_) (fun c3=>?_)
   ·refine zSr<|z7 (zq (v := .str _) Z)<|z6<|zh<|zj (x := .str _) Z ?_
    exact congrArg AV.str (by simp_all [tyWord])
   ·refine zf<|zSr<|z7 (zq (v := .str _) Z)<|z6<|zh<|zj (x := .str _) Z ?_
    exact congrArg AV.str (by simp_all [tyWord])
end Go.Proofs.YtpojdepccecpgaaGreatDoor
namespace Go.Proofs.YtpojdepccecpgaaGreatDoor
open Go.Proofs.Tryz
open Go.Proofs Go.Lib Go.Shelf Go.RowKit
set_option maxRecDepth 20000
variable {E : World}
def inB (s : ByteArray) (l : List ByteArray) : Bool := l.any fun t => decide (t = s)
theorem inB_iff {s : ByteArray} {l : List ByteArray} : inB s l = true ↔ s ∈ l := by
 unfold inB; rw [List.any_eq_true]
 constructor
 ·rintro ⟨x, hx, h⟩; have h : x = s := by simpa using h
  exact h ▸ hx
 ·intro h; exact ⟨s, h, by simp⟩
theorem inB_snoc {s t : ByteArray} {l : List ByteArray} : inB s (l ++ [t]) = (inB s l || decide (t = s)) := by unfold inB; rw [List.any_append]; simp
def UnlP (l : List ByteArray) : Prop := ∀ i (h : i < l.length), scanName l[i] = true ∧ inB l[i] (l.take i) = false
instance (l : List ByteArray) : Decidable (UnlP l) := by unfold UnlP; infer_instance
theorem unl_new {t : ByteArray} {l : List ByteArray} {mt : Int} (ht : mt = if inB t l = true then 1 else 0) (hc : decide (0 < mt) = false) : inB t l = false := by
 have hc := of_decide_eq_false hc
 cases h : inB t l with
 | true => rw [h] at ht; simp at ht; omega
 | false => rfl
theorem unl_step {s t : ByteArray} {l : List ByteArray} {m : Option Int} {mt : Int} (hs : m.getD 0 = if inB s l = true then 1 else 0) (ht : mt = if inB t l = true then 1 else 0) (hc : decide (0 < mt) = false) :
  (if s = t then some (mt + 1) else m).getD 0 = if (inB s l || decide (t = s)) = true then 1 else 0 := by
 have h := unl_new ht hc
 rw [h] at ht
 have ht : mt = 0 := by simpa using ht
 by_cases e : s = t
 ·subst e; simp [ht]
 ·rw [if_neg e, hs]
  have e2 : ¬ t = s := fun h => e h.symm
  simp [e2]
theorem unl_upto {l : List ByteArray} {k : Nat} (hn : ∀ i (h : i < l.length), i < k → scanName l[i] = true ∧ inB l[i] (l.take i) = false) (hk : k < l.length) (h1 : scanName l[k] = true) (h2 : inB l[k] (l.take k) = false) :
  ∀ i (h : i < l.length), i < k + 1 → scanName l[i] = true ∧ inB l[i] (l.take i) = false := fun i h hi => by
 by_cases e : i = k
 ·subst e; exact ⟨h1, h2⟩
 ·exact hn i h (by omega)
theorem unlike_spec (l : List ByteArray) (hl : l.length ≤ 100000000) (hs : ∀ s ∈ l, s.size ≤ 140737488355328) (hL : Letters E) : AFun prog E 129 [.fro 1 (l.map encS)] (.bool (decide (UnlP l))) := by
 refine zl func129 Z (by decide) Z<|zSr<|zVzAb Z<|z6<|zSr<|AOps.makeMap<|fun b6 => z7 (zq (v := mref _) Z)<|z6<|zb<|zSr<|zVzMf Z<|zVGvlenM Z5 Z<|zVzMi Z<|z6<|zd<|zt (γ := Nat × List (ByteArray × Int)) [3, 7, 8] (fun g => [(9, .int .i64 g.1)]) (fun g => [(0, mapO b6 g.2)]) (fun g => g.1 ≤ l.length ∧ (∀ i (h : i < l.length), i < g.1 → scanName l[i] = true ∧ inB l[i] (l.take i) = false) ∧ ∀ s, (mget s g.2).getD 0 = if inB s (l.take g.1) = true then 1 else 0) (fun g => l.length - g.1) (0, []) zR1 zLe (⟨qc _, fun i h h2 => absurd h2 (Nat.not_lt_zero _), fun s => Z⟩) ?_
 rintro ⟨k, es⟩ ⟨hk, hn, hm⟩
 try dsimp only at *
 refine zSr<|zVGvlss Z Z<|z6<|zb<|zn Z (fun ck=>?_) (fun ck=>?_)
 ·have hk2 : k < l.length := by omega
  have hmk := hm l[k]
  have hz := hs _ (qd hk2)
  refine zf<|zb<|zd<|zSr<|z7 (zIM k Z5 ju Z Z Z (q9 hk2))<|z7 (ye (c := .str _) jy Z)<|z7 (zq (v := .str _) Z)<|z6<|zb<|zSr<|z7 (y3 (v := .str _) Z)<|ze (zname_spec _ hz hL) Z<|zVGvnot Z<|zVzMb Z<|zp (s := 16) Z (fun c1=>?_) (fun c1=>?_)
  ·refine z8 Z Z c1<|z8 Z Z c1<|z8 Z Z c1<|z8 Z Z c1<|zVzPt Z c1 Z<|z6<|ym Z Z<|zSr<|zVzAb Z<|z6<|zh<|zj (x := .bool _) Z ?_
   exact jb (qm fun h => by have h := h k hk2; simp_all).symm
  ·refine za Z Z c1<|z7 (y3 (v := mref _) Z)<|za Z Z c1<|z7 (y3 (v := .str _) Z)<|za Z Z c1<|z7 (Gv.lookup1S underlying219 jx Zn Z Z ⟨_, .head⟩)<|za Z Z c1<|z7 (yv Z Z)<|zVzPf Z c1 Z<|z6<|zz Z (fun c2=>?_) (fun c2=>?_)
   ·refine zSr<|zVzAb Z<|z6<|zh<|zj (x := .bool _) Z ?_
    exact jb (qm fun h => by have h := h k hk2; simp_all).symm
   ·refine zf<|zRg<|z7 (y3 (v := mref _) Z)<|z7 (y3 (v := .str _) Z)<|z7 (Gv.lookup1S underlying219 jx Zn Z Z ⟨_, .head⟩)<|z7 (Gv.add Z Z (by first | (unfold I64; omega) | (unfold I64; rw [hmk]; split <;> omega)))<|AOps.mapSet underlying219 jx Z Z Z .head<|z6<|zRg<|z7 (Gv.add Z Z (by first | (unfold I64; omega) | (unfold I64; rw [hmk]; split <;> omega)))<|zVzMi Z<|z6 ?_
    exact ⟨(k + 1, mset l[k] ((mget l[k] es).getD 0 + 1) es), zR3, zR1, zLe, ⟨hk2, unl_upto hn hk2 (by simpa using c1) (unl_new hmk (by assumption)), fun s => by dsimp only; rw [mget_set, qa hk2, inB_snoc]; exact unl_step (hm s) hmk (by assumption)⟩, by dsimp only; omega⟩
 ·have hkn : k = l.length := by omega
  refine zr<|zSr<|zVzAb Z<|z6<|zh<|zj (x := .bool _) Z ?_
  exact jb (ql fun i h => hn i h (by omega)).symm
theorem map_take {α : Type} {g : α → ByteArray} {l : List α} {k : Nat} (h : k < l.length) : (l.map g).take (k + 1) = (l.map g).take k ++ [g l[k]] := by
 rw [qa (by simpa using h)]; simp
def VNames (f : PFunc) : List ByteArray := f.vars.map PVar.name
def BNames (f : PFunc) : List ByteArray := f.blocks.map PBlock.name
@[simp] theorem vn_len (f : PFunc) : (VNames f).length = f.vars.length := by unfold VNames; simp
@[simp] theorem bn_len (f : PFunc) : (BNames f).length = f.blocks.length := by unfold BNames; simp
theorem vn_take {f : PFunc} {k : Nat} (h : k < f.vars.length) : (VNames f).take (k + 1) = (VNames f).take k ++ [f.vars[k].name] := map_take h
theorem bn_take {f : PFunc} {k : Nat} (h : k < f.blocks.length) : (BNames f).take (k + 1) = (BNames f).take k ++ [f.blocks[k].name] := map_take h
def ParP (f : PFunc) : Prop := ∀ i (h : i < f.params.length), f.params[i] = (i : Int)
instance (f : PFunc) : Decidable (ParP f) := by unfold ParP; infer_instance
def TysP (f : PFunc) : Prop := ∀ i (h : i < f.vars.length), ¬ tyWord f.vars[i].ty = ⟨#[]⟩
instance (f : PFunc) : Decidable (TysP f) := by unfold TysP; infer_instance
def LensP (f : PFunc) : Prop := f.vars.length ≤ 512 ∧ f.params.length ≤ 8 ∧ f.params.length ≤ f.vars.length ∧ 1 ≤ f.blocks.length ∧ f.blocks.length ≤ 64
instance (f : PFunc) : Decidable (LensP f) := by unfold LensP; infer_instance
def NamesP (f : PFunc) : Prop := TysP f ∧ ParP f ∧ LensP f ∧ UnlP (VNames f) ∧ UnlP (BNames f)
instance (f : PFunc) : Decidable (NamesP f) := by unfold NamesP; infer_instance
theorem pnames_spec (f : PFunc) (h1 : f.vars.length ≤ 100000000) (h2 : f.blocks.length ≤ 100000000) (hp : f.params.length ≤ 100000000) (hn : okNames f) (hL : Letters E) : AFun prog E 90 [.agg (encF f)] (.bool (decide (NamesP f))) := by
 have hnv : (VNames f).length = f.vars.length := by unfold VNames; simp
 have hnb : (BNames f).length = f.blocks.length := by unfold BNames; simp
 refine zl func90 Z (by decide) Z<|zSr<|y4 (cs := _) Z Z Z<|zVzAb Z<|z6<|zSr<|z7 (zAr Z)<|z7 (zAr Z)<|z6<|adopt_wp (t := 3) (k := 1) (T := 9) Z<|fun i3 => adopt_wp (t := 4) (k := 1) (T := 9) Z<|fun i4 => zb<|zSr<|zVzFF j6 Z Z1 Z Z<|zVzLf Z7 Z<|zVGvlenM jn Z<|zVzMi Z<|z6<|zd<|zt (γ := Nat × Nat) [1, 4, 12, 13] (fun g => [(3, .own g.2 g.1), (14, .int .i64 g.1)]) (fun g => [(i4, .grow 1 9 []), (g.2, .grow 1 9 ((((VNames f).take g.1).map encS).flatten))]) (fun g => g.1 ≤ f.vars.length ∧ ∀ i (h : i < f.vars.length), i < g.1 → ¬ tyWord f.vars[i].ty = ⟨#[]⟩) (fun g => f.vars.length - g.1) (0, i3) zR2 zLe (⟨qc _, fun i h h2 => absurd h2 (Nat.not_lt_zero _)⟩) ?_
 rintro ⟨k, i⟩ ⟨hk, hT⟩
 try dsimp only at *
 refine zSr<|zVGvlss Z Z<|z6<|zb<|zn Z (fun ck=>?_) (fun ck=>?_)
 ·have hk2 : k < f.vars.length := by simp at ck; omega
  refine zf<|zb<|zd<|zSr<|z7 (zIM k jn Z0 Z Z Z (q9 hk2))<|zVGvloadWF isAgg58 Z0 Z Z<|zo (cs := [.str ⟨#[]⟩, .int .i64 0]) Ya Z Z<|fun i6 => zm Z0 Z Z Z Z Z Z .head Z<|z6<|zSr<|z7 (zMo Z)<|z7 (zc jv Z ju (by decide) Z Z)<|z7 (zi (c := .str _) jy Z ⟨_, .head⟩ Z)<|zk (rows := [[_]]) ps84_1 Z Z Z Z Z<|zu (k := 1) Z5 type9 Z Z Z Z Z (fun _ => .t2) (by rw [grow_len (k := 1) (fun _ => rfl), qk]; omega) (by decide) Z (by show (_ + 1) * 16 ≤ _; omega) (by show _ + 1 ≤ _; omega)<|fun i22 => z7 (zAo Z)<|z6<|zSr<|z7 (zc jv Z Y6 (by decide) Z Z)<|z7 (zi (c := .int _ _) Yb Z ⟨_, .head⟩ Z)<|ze (tyWord_spec _) Z<|z7 (Gv.eqlT Z Z)<|z6<|zn Z (fun ct=>?_) (fun ct=>?_)
  ·refine zSr<|zVzAb Z<|z6<|zh<|zj (x := .bool _) Z ?_
   exact jb (qm fun h => h.1 k hk2 (by simpa using ct)).symm
  ·refine zf<|zRg<|zVzAd Z Z<|zVzMi Z<|z6 ?_
   exact ⟨(k + 1, i22), zR4, zR2, ⟨_, (.drop (.refl _)), by dsimp only; rw [← grow_push (enc := encS) (vn_take hk2)]; rfl⟩, ⟨hk2, fun i h h2 => by by_cases e : i = k; (subst e; simpa using ct); exact hT i h (by dsimp only at h2; omega)⟩, by dsimp only; omega⟩
 ·have hkn : k = f.vars.length := by simp at ck; omega
  subst hkn
  rw [List.take_of_length_le (by omega : (VNames f).length ≤ f.vars.length)]
  have hTys : TysP f := fun i h => hT i h h
  refine zr<|zb<|zSr<|zVzFF j6 Z jo Z Z<|zVzLf jw Z<|zVGvlenM je Z<|zVzMi Z<|z6<|zd<|zt (γ := Nat × Nat) [1, 3, 29, 30] (fun g => [(4, .own g.2 g.1), (31, .int .i64 g.1)]) (fun g => [(g.2, .grow 1 9 ((((BNames f).take g.1).map encS).flatten)), (i, .grow 1 9 (((VNames f).map encS).flatten))]) (fun g => g.1 ≤ f.blocks.length) (fun g => f.blocks.length - g.1) (0, i4) zR2 zLe (qc _) ?_
  rintro ⟨k, j⟩ hk
  try dsimp only at *
  refine zSr<|zVGvlss Z Z<|z6<|zb<|zn Z (fun ck=>?_) (fun ck=>?_)
  ·have hk2 : k < f.blocks.length := by simp at ck; omega
   refine zf<|zb<|zd<|zSr<|z7 (zIM k je jj Z Z Z (q9 hk2))<|zVGvloadWF Zc jj Z Z<|zo (cs := [.str ⟨#[]⟩, .raw (.slice none 0 0), .raw (.slice none 0 0), .int .i64 0, .int .i64 0, .int .i64 0, .int .i64 0]) jz Z Z<|fun i8 => zm jj Z Z Z Z Z Z .head Z<|z6<|zRg<|z7 (zMo Z)<|z7 (zc j5 Z ju (by decide) Z Z)<|z7 (zi (c := .str _) jy Z ⟨_, .head⟩ Z)<|zk (rows := [[_]]) ps84_1 Z Z Z Z Z<|zu (k := 1) Z5 type9 Z Z Z Z Z (fun _ => .t1) (by rw [grow_len (k := 1) (fun _ => rfl), qk]; omega) (by decide) Z (by show (_ + 1) * 16 ≤ _; omega) (by show _ + 1 ≤ _; omega)<|fun i39 => z7 (zAo Z)<|z6<|zRg<|zVzAd Z Z<|zVzMi Z<|z6 ?_
   exact ⟨(k + 1, i39), zR4, zR2, ⟨_, (.drop (.refl _)), by dsimp only; rw [← grow_push (enc := encS) (bn_take hk2)]; rfl⟩, hk2, by dsimp only; omega⟩
  ·have hkn : k = f.blocks.length := by simp at ck; omega
   subst hkn
   rw [List.take_of_length_le (by omega : (BNames f).length ≤ f.blocks.length)]
   refine zr<|zb<|zSr<|zVzFF j6 Z jc Z Z<|zVzLf jm Z<|zVGvlenM j4 Z<|zVzMi Z<|z6<|zd<|zt (γ := Nat) [1, 3, 4, 42, 43] (fun k => [(44, .int .i64 k)]) (fun k => [(j, .grow 1 9 (((BNames f).map encS).flatten)), (i, .grow 1 9 (((VNames f).map encS).flatten))]) (fun k => k ≤ f.params.length ∧ ∀ i (h : i < f.params.length), i < k → f.params[i] = (i : Int)) (fun k => f.params.length - k) 0 zR1 zLe (⟨qc _, fun i h h2 => absurd h2 (Nat.not_lt_zero _)⟩) ?_
   rintro k ⟨hk, hP⟩
   refine zSr<|zVGvlss Z Z<|z6<|zb<|zn Z (fun ck=>?_) (fun ck=>?_)
   ·have hk2 : k < f.params.length := by simp at ck; omega
    refine zf<|zb<|zd<|zSr<|zVzMi Z<|z7 (zIM k j4 j8 Z Z Z (q9 hk2))<|zVzLi jh Z<|zVzAi Z<|zVzAi Z<|z6<|zSr<|zVzMi Z<|zVzMi Z<|zVGvneqI Z Z<|z6<|zz Z (fun cp=>?_) (fun cp=>?_)
    ·refine zSr<|zVzAb Z<|z6<|zh<|zj (x := .bool _) Z ?_
     exact jb (qm fun h => by have := h.2.1 k hk2; simp [this] at cp).symm
    ·refine zf<|zRg<|zVzAd Z Z<|zVzMi Z<|z6 ?_
     exact ⟨k + 1, zR5, zR1, zLe, ⟨hk2, fun i h h2 => by by_cases e : i = k; (subst e; simpa using cp); exact hP i h (by omega)⟩, by omega⟩
   ·have hkn : k = f.params.length := by simp at ck; omega
    subst hkn
    have hPar : ParP f := fun i h => hP i h h
    refine y2 (GStep.know (t := 3) (rows := (VNames f).map encS) Z .t1 (by intro r hr; obtain ⟨x, _, rfl⟩ := List.mem_map.1 hr; rfl) (by decide) (by simp))<|y2 (GStep.know (t := 4) (rows := (BNames f).map encS) Z .head (by intro r hr; obtain ⟨x, _, rfl⟩ := List.mem_map.1 hr; rfl) (by decide) (by simp))<|zr<|zSr<|zVzMf Z<|zVGvlenM Z5 Z<|z7 (Gv.leq Z Z)<|zVzMb Z<|zp (s := 56) Z (fun c3=>?_) (fun c3=>?_)
    ·refine za Z Z c3<|zVzFF j6 Z jc Z Z<|za Z Z c3<|zVzLf jm Z<|za Z Z c3<|zVGvlenM j4 Z<|za Z Z c3<|zVzMf Z<|za Z Z c3<|zVGvlenM Z5 Z<|za Z Z c3<|z7 (Gv.minI Z Z)<|za Z Z c3<|z7 (Gv.leq Z Z)<|zVzPt Z c3 Z<|zVzMb Z<|zp (s := 65) Z (fun c4=>?_) (fun c4=>?_)
     ·refine za Z Z c4<|zVzMf Z<|za Z Z c4<|zVGvlenM Z5 Z<|za Z Z c4<|z7 (yz Z Z)<|zVzPt Z c4 Z<|zVzMb Z<|zp (s := 70) Z (fun c5=>?_) (fun c5=>?_)
      ·refine za Z Z c5<|zVzMf Z<|za Z Z c5<|zVGvlenM Z5 Z<|za Z Z c5<|z7 (Gv.leq Z Z)<|zVzPt Z c5 Z<|zVzMb Z<|zp (s := 75) Z (fun c6=>?_) (fun c6=>?_)
       ·refine za Z Z c6<|zVzMf Z<|za Z Z c6<|ze (unlike_spec (VNames f) (by omega) (fun s hs => by obtain ⟨v, hv, rfl⟩ := List.mem_map.1 hs; exact hn.1 v hv) hL) Z<|zVzPt Z c6 Z<|zVzMb Z<|zp (s := 79) Z (fun c7=>?_) (fun c7=>?_)
        ·refine za Z Z c7<|zVzMf Z<|za Z Z c7<|ze (unlike_spec (BNames f) (by omega) (fun s hs => by obtain ⟨v, hv, rfl⟩ := List.mem_map.1 hs; exact hn.2 v hv) hL) Z<|zVzPt Z c7 Z<|zVzAb Z<|z6<|zh<|zj (x := .bool _) Z ?_
         exact jb (by unfold NamesP LensP; simp_all <;> grind)
        ·refine z8 Z Z c7<|z8 Z Z c7<|zVzPf Z c7 Z<|zVzAb Z<|z6<|zh<|zj (x := .bool _) Z ?_
         exact jb (by unfold NamesP LensP; simp_all <;> grind)
       ·refine z8 Z Z c6<|z8 Z Z c6<|zVzPf Z c6 Z<|zVzMb Z<|z8 Z Z Z<|z8 Z Z Z<|zVzPf Z Z Z<|zVzAb Z<|z6<|zh<|zj (x := .bool _) Z ?_
        exact jb (by unfold NamesP LensP; simp_all <;> grind)
      ·refine z8 Z Z c5<|z8 Z Z c5<|z8 Z Z c5<|zVzPf Z c5 Z<|zVzMb Z<|z8 Z Z Z<|z8 Z Z Z<|zVzPf Z Z Z<|zVzMb Z<|z8 Z Z Z<|z8 Z Z Z<|zVzPf Z Z Z<|zVzAb Z<|z6<|zh<|zj (x := .bool _) Z ?_
       exact jb (by unfold NamesP LensP; simp_all <;> grind)
     ·refine z8 Z Z c4<|z8 Z Z c4<|z8 Z Z c4<|zVzPf Z c4 Z<|zVzMb Z<|z8 Z Z Z<|z8 Z Z Z<|z8 Z Z Z<|zVzPf Z Z Z<|zVzMb Z<|z8 Z Z Z<|z8 Z Z Z<|zVzPf Z Z Z<|zVzMb Z<|z8 Z Z Z<|z8 Z Z Z<|zVzPf Z Z Z<|zVzAb Z<|z6<|zh<|zj (x := .bool _) Z ?_
      exact jb (by unfold NamesP LensP; simp_all <;> grind)
    ·refine z8 Z Z c3<|z8 Z Z c3<|z8 Z Z c3<|z8 Z Z c3<|z8 Z Z c3<|z8 Z Z c3<|z8 Z Z c3<|zVzPf Z c3 Z<|zVzMb Z<|z8 Z Z Z<|z8 Z Z Z<|z8 Z Z Z<|zVzPf Z Z Z<|zVzMb Z<|z8 Z Z Z<|z8 Z Z Z<|z8 Z Z Z<|zVzPf Z Z Z<|zVzMb Z<|z8 Z Z Z<|z8 Z Z Z<|zVzPf Z Z Z<|zVzMb Z<|z8 Z Z Z<|z8 Z Z Z<|zVzPf Z Z Z<|zVzAb Z<|z6<|zh<|zj (x := .bool _) Z ?_
     exact jb (by unfold NamesP LensP; simp_all <;> grind)
def phiOK (f : PFunc) (p : PPhi) : Bool := !decide (p.args.length = 0) && decide (p.args.length = p.from_.length) && hasV f p.dst && p.args.all (hasV f) && p.from_.all (hasB f)
theorem phi1_spec (f : PFunc) (v : Int) : AFun prog E 134 ([.int .i64 v] ++ [.pf (encF f)]) (.bool (!hasB f v)) := by
 refine zl func134 Z (by decide) Z<|zSr<|zVzAb Z<|z6<|zSr<|zVGvloadWF jk jg Z Z<|zVzMi Z<|ze (at_spec _ _) Z<|zVGvnot Z<|zVzAb Z<|z6<|zh<|zj (x := .bool _) Z ?_
 rfl
theorem phi_spec (f : PFunc) (p : PPhi) (hp : okPhi p) : AFun prog E 93 [.agg (encF f), .agg (encPhi p)] (.bool (phiOK f p)) := by
 have hl1 := hp.1.lt
 have hl2 := hp.2.lt
 refine zl func93 Z (by decide) Z<|zSr<|y4 (cs := _) Z Z Z<|y4 (cs := _) Z Z Z<|zVzAb Z<|z6<|zb<|zSr<|zVzFF jd Z jc Z Z<|zVzLf jm Z<|zVGvlenM j4 Z<|zVGveqlI Z Z<|zVzMb Z<|zp (s := 9) Z (fun c8=>?_) (fun c8=>?_)
 ·refine z8 Z Z c8<|z8 Z Z c8<|z8 Z Z c8<|z8 Z Z c8<|z8 Z Z c8<|z8 Z Z c8<|z8 Z Z c8<|zVzPt Z c8 Z<|zVzMb Z<|z8 Z Z Z<|z8 Z Z Z<|z8 Z Z Z<|z8 Z Z Z<|z8 Z Z Z<|zVzPt Z Z Z<|zVzMb Z<|z8 Z Z Z<|z8 Z Z Z<|z8 Z Z Z<|z8 Z Z Z<|z8 Z Z Z<|zVzPt Z Z Z<|z6<|ym Z Z<|zSr<|zVzAb Z<|z6<|zh<|zj (x := .bool _) Z ?_
  exact jb (by have := List.any_eq_not_all_not (l := p.from_) (p := fun x => !hasB f x); simp_all [phiOK, Int.ofNat_inj] <;> grind)
 ·refine za Z Z c8<|zVzFF jd Z jc Z Z<|za Z Z c8<|zVzLf jm Z<|za Z Z c8<|zVGvlenM j4 Z<|za Z Z c8<|zVzFF jd Z jc Z Z<|za Z Z c8<|zVzLf jm Z<|za Z Z c8<|zVGvlenM j4 Z<|za Z Z c8<|zVGvneqI Z Z<|zVzPf Z c8 Z<|zVzMb Z<|zp (s := 18) Z (fun c9=>?_) (fun c9=>?_)
  ·refine z8 Z Z c9<|z8 Z Z c9<|z8 Z Z c9<|z8 Z Z c9<|z8 Z Z c9<|zVzPt Z c9 Z<|zVzMb Z<|z8 Z Z Z<|z8 Z Z Z<|z8 Z Z Z<|z8 Z Z Z<|z8 Z Z Z<|zVzPt Z Z Z<|z6<|ym Z Z<|zSr<|zVzAb Z<|z6<|zh<|zj (x := .bool _) Z ?_
   exact jb (by have := List.any_eq_not_all_not (l := p.from_) (p := fun x => !hasB f x); simp_all [phiOK, Int.ofNat_inj] <;> grind)
  ·refine za Z Z c9<|zVGvloadWF jk jg Z Z<|za Z Z c9<|zVzFF jd Z j8 Z Z<|za Z Z c9<|zVzLi jh Z<|za Z Z c9<|ze (has_spec _ _) Z<|za Z Z c9<|zVGvnot Z<|zVzPf Z c9 Z<|zVzMb Z<|zp (s := 25) Z (fun c10=>?_) (fun c10=>?_)
   ·refine z8 Z Z c10<|z8 Z Z c10<|z8 Z Z c10<|z8 Z Z c10<|z8 Z Z c10<|zVzPt Z c10 Z<|z6<|ym Z Z<|zSr<|zVzAb Z<|z6<|zh<|zj (x := .bool _) Z ?_
    exact jb (by have := List.any_eq_not_all_not (l := p.from_) (p := fun x => !hasB f x); simp_all [phiOK, Int.ofNat_inj] <;> grind)
   ·refine za Z Z c10<|zVGvloadWF jk jg Z Z<|za Z Z c10<|zVzFF jd Z jc Z Z<|za Z Z c10<|zVzLf jm Z<|za Z Z c10<|ze (vars_spec f p.args (by omega)) Z<|za Z Z c10<|zVGvnot Z<|zVzPf Z c10 Z<|z6<|zz Z (fun c11=>?_) (fun c11=>?_)
    ·refine zSr<|zVzAb Z<|z6<|zh<|zj (x := .bool _) Z ?_
     exact jb (by have := List.any_eq_not_all_not (l := p.from_) (p := fun x => !hasB f x); simp_all [phiOK, Int.ofNat_inj] <;> grind)
    ·refine zf<|zSr<|zVzFF jd Z jc Z Z<|zVzLf jm Z<|z7 (Gv.func Z Z)<|ze (containsFuncI_spec p.from_ (by omega) (phi1_spec f)) Z<|zVGvnot Z<|zVzAb Z<|z6<|zh<|zj (x := .bool _) Z ?_
     exact jb (by have := List.any_eq_not_all_not (l := p.from_) (p := fun x => !hasB f x); simp_all [phiOK, Int.ofNat_inj] <;> grind)
end Go.Proofs.YtpojdepccecpgaaGreatDoor
namespace Go.Proofs.YtpojdepccecpgaaGreatDoor
open Go.Proofs.Tryz
open Go.Proofs Go.Lib Go.Shelf Go.RowKit
set_option maxRecDepth 20000
variable {E : World}
theorem indexFuncP_spec {p : PPhi → Bool} {fn : FuncId} {c : List AV} (xs : List PPhi) (hl : xs.length ≤ 281474976710656) (hp : ∀ x ∈ xs, AFun prog E fn ([.agg (encPhi x)] ++ c) (.bool (p x))) :
  AFun prog E 130 [.fro 3 (xs.map encPhi), .fn fn [] c] (.int .i64 (firstI p xs 0)) := by
 refine zl func130 Z (by decide) Z<|zSr<|zVzAi Z<|z6<|zb<|zSr<|zVzMf Z<|zVGvlenM jl Z<|zVzMi Z<|z6<|zd<|zt (γ := Nat) [0, 1, 7] (fun k => [(8, .int .i64 k)]) (fun k => []) (fun k => k ≤ xs.length ∧ (xs.take k).all (fun x => !p x)) (fun k => xs.length - k) 0 zR1 zLe (⟨qc _, Z⟩) ?_
 rintro k ⟨hk, hall⟩
 refine zSr<|zVGvlss Z Z<|z6<|zb<|zn Z (fun ck=>?_) (fun ck=>?_)
 ·have hk2 : k < xs.length := by omega
  refine zf<|zb<|zd<|zSr<|zVzMi Z<|zVzAi Z<|z6<|zSr<|z7 (y3 (v := .fn _ _ _) Z)<|zVzMf Z<|zVzMi Z<|z7 (yi jl jp Z Z Z (q9 (by omega)))<|zVGvloadWF Zf jp Z Z<|AOps.callVP Z (hp _ (qd hk2)) Z<|z6<|zz Z (fun cp=>?_) (fun cp=>?_)
  ·refine zSr<|zVzMi Z<|zVzAi Z<|z6<|zh<|zj (x := .int _ _) Z ?_
   rw [firstI_drop p xs k hk hall, List.drop_eq_getElem_cons hk2, firstI, if_pos cp]
  ·refine zf<|zRg<|zVzAd Z Z<|zVzMi Z<|z6 ?_
   exact ⟨k + 1, zR3, zR1, zLe, ⟨hk2, by rw [qa hk2, List.all_append, hall]; simp [cp]⟩, by omega⟩
 ·have hkn : k = xs.length := by omega
  refine zr<|zSr<|zVzAi Z<|z6<|zh<|zj (x := .int _ _) Z ?_
  rw [firstI_drop p xs k hk hall, hkn, List.drop_length, firstI]
theorem containsFuncP_spec {p : PPhi → Bool} {fn : FuncId} {c : List AV} (xs : List PPhi) (hl : xs.length ≤ 281474976710656) (hp : ∀ x ∈ xs, AFun prog E fn ([.agg (encPhi x)] ++ c) (.bool (p x))) :
  AFun prog E 91 [.fro 3 (xs.map encPhi), .fn fn [] c] (.bool (xs.any p)) := by
 refine zl func91 Z (by decide) Z<|zSr<|zVzAb Z<|z6<|zSr<|zVzMf Z<|z7 (y3 (v := .fn _ _ _) Z)<|ze (indexFuncP_spec xs hl hp) Z<|z7 (yz Z Z)<|zVzAb Z<|z6<|zh<|zj (x := .bool _) Z ?_
 rw [firstI_ge]
theorem indexFuncX_spec {p : PInst → Bool} {fn : FuncId} {c : List AV} (xs : List PInst) (hl : xs.length ≤ 281474976710656) (hp : ∀ x ∈ xs, AFun prog E fn ([.agg (encInst x)] ++ c) (.bool (p x))) :
  AFun prog E 136 [.fro 4 (xs.map encInst), .fn fn [] c] (.int .i64 (firstI p xs 0)) := by
 refine zl func136 Z (by decide) Z<|zSr<|zVzAi Z<|z6<|zb<|zSr<|zVzMf Z<|zVGvlenM jr Z<|zVzMi Z<|z6<|zd<|zt (γ := Nat) [0, 1, 7] (fun k => [(8, .int .i64 k)]) (fun k => []) (fun k => k ≤ xs.length ∧ (xs.take k).all (fun x => !p x)) (fun k => xs.length - k) 0 zR1 zLe (⟨qc _, Z⟩) ?_
 rintro k ⟨hk, hall⟩
 refine zSr<|zVGvlss Z Z<|z6<|zb<|zn Z (fun ck=>?_) (fun ck=>?_)
 ·have hk2 : k < xs.length := by omega
  refine zf<|zb<|zd<|zSr<|zVzMi Z<|zVzAi Z<|z6<|zSr<|z7 (y3 (v := .fn _ _ _) Z)<|zVzMf Z<|zVzMi Z<|z7 (yi jr jt Z Z Z (q9 (by omega)))<|zVGvloadWF Zk jt Z Z<|AOps.callVP Z (hp _ (qd hk2)) Z<|z6<|zz Z (fun cp=>?_) (fun cp=>?_)
  ·refine zSr<|zVzMi Z<|zVzAi Z<|z6<|zh<|zj (x := .int _ _) Z ?_
   rw [firstI_drop p xs k hk hall, List.drop_eq_getElem_cons hk2, firstI, if_pos cp]
  ·refine zf<|zRg<|zVzAd Z Z<|zVzMi Z<|z6 ?_
   exact ⟨k + 1, zR3, zR1, zLe, ⟨hk2, by rw [qa hk2, List.all_append, hall]; simp [cp]⟩, by omega⟩
 ·have hkn : k = xs.length := by omega
  refine zr<|zSr<|zVzAi Z<|z6<|zh<|zj (x := .int _ _) Z ?_
  rw [firstI_drop p xs k hk hall, hkn, List.drop_length, firstI]
theorem containsFuncX_spec {p : PInst → Bool} {fn : FuncId} {c : List AV} (xs : List PInst) (hl : xs.length ≤ 281474976710656) (hp : ∀ x ∈ xs, AFun prog E fn ([.agg (encInst x)] ++ c) (.bool (p x))) :
  AFun prog E 94 [.fro 4 (xs.map encInst), .fn fn [] c] (.bool (xs.any p)) := by
 refine zl func94 Z (by decide) Z<|zSr<|zVzAb Z<|z6<|zSr<|zVzMf Z<|z7 (y3 (v := .fn _ _ _) Z)<|ze (indexFuncX_spec xs hl hp) Z<|z7 (yz Z Z)<|zVzAb Z<|z6<|zh<|zj (x := .bool _) Z ?_
 rw [firstI_ge]
theorem shaped1_spec (f : PFunc) (p : PPhi) (hp : okPhi p) : AFun prog E 92 ([.agg (encPhi p)] ++ [.pf (encF f)]) (.bool (!phiOK f p)) := by
 refine zl func92 Z (by decide) Z<|zSr<|y4 (cs := _) Z Z Z<|zVzAb Z<|z6<|zSr<|zVGvloadWF jk jg Z Z<|zVGvloadWF Zf jp Z Z<|ze (phi_spec _ _ (by assumption)) Z<|zVGvnot Z<|zVzAb Z<|z6<|zh<|zj (x := .bool _) Z ?_
 rfl
theorem shaped2_spec (f : PFunc) (x : PInst) (hx : okL x.args) : AFun prog E 95 ([.agg (encInst x)] ++ [.pf (encF f)]) (.bool (!instOK f x)) := by
 refine zl func95 Z (by decide) Z<|zSr<|y4 (cs := _) Z Z Z<|zVzAb Z<|z6<|zSr<|zVGvloadWF jk jg Z Z<|zVGvloadWF Zk jt Z Z<|ze (inst_spec _ _ (by assumption)) Z<|zVGvnot Z<|zVzAb Z<|z6<|zh<|zj (x := .bool _) Z ?_
 rfl
def blkOK (f : PFunc) (b : PBlock) : Bool := !(b.phis.any fun p => !phiOK f p) && !(b.insts.any fun x => !instOK f x) && termOK f b.term
theorem blk_bad1 {f : PFunc} {b : PBlock} (h : (b.phis.any fun p => !phiOK f p) = true) : blkOK f b = false := by unfold blkOK; rw [h]; rfl
theorem blk_bad2 {f : PFunc} {b : PBlock} (h : (b.insts.any fun x => !instOK f x) = true) : blkOK f b = false := by unfold blkOK; rw [h]; simp
theorem blk_bad3 {f : PFunc} {b : PBlock} (h : (!termOK f b.term) = true) : blkOK f b = false := by unfold blkOK; rw [show termOK f b.term = false by simpa using h]; simp
theorem blk_good {f : PFunc} {b : PBlock} (h1 : (b.phis.any fun p => !phiOK f p) = false) (h2 : (b.insts.any fun x => !instOK f x) = false) (h3 : (!termOK f b.term) = false) : blkOK f b = true := by unfold blkOK; rw [h1, h2, show termOK f b.term = true by simpa using h3]; rfl
def shapedB (f : PFunc) : Bool := decide (NamesP f) && (f.blocks.all (blkOK f) && decide (sumTo f.blocks ≤ 1024))
theorem Shaped_spec (f : PFunc) (hf : okFunc f) (h1 : f.vars.length ≤ 100000000) (h2 : f.blocks.length ≤ 100000000) (hp : f.params.length ≤ 100000000) (hn : okNames f) (hL : Letters E) : AFun prog E 57 [.agg (encF f)] (.bool (shapedB f)) := by
 refine zl func57 Z (by decide) Z<|zSr<|y4 (cs := _) Z Z Z<|zVzAb Z<|z6<|zb<|zSr<|zVGvloadWF jk jg Z Z<|ze (pnames_spec _ (by omega) (by omega) (by omega) (by assumption) hL) Z<|zVGvnot Z<|z6<|zz Z (fun cn=>?_) (fun cn=>?_)
 ·refine zSr<|zVzAb Z<|z6<|zh<|zj (x := .bool _) Z ?_
  exact jb (by unfold shapedB; rw [show decide (NamesP f) = false by simpa using cn]; rfl)
 ·have hN : NamesP f := by simpa using cn
  have hbl := hN.2.2.1.2.2.2.2
  refine zf<|zSr<|zVzAi Z<|z6<|zb<|zSr<|zVzFF j6 Z jo Z Z<|zVzLf jw Z<|zVGvlenM je Z<|zVzMi Z<|z6<|zd<|zt (γ := Nat) [1, 11, 12] (fun k => [(3, .int .i64 (sumTo (f.blocks.take k))), (13, .int .i64 k)]) (fun k => []) (fun k => k ≤ f.blocks.length ∧ sumTo (f.blocks.take k) ≤ k * 562949953421312 ∧ (f.blocks.take k).all (blkOK f) = true) (fun k => f.blocks.length - k) 0 zR2 zLe (⟨qc _, qc _, Z⟩) ?_
  rintro k ⟨hk, hsum, hall⟩
  refine zSr<|zVGvlss Z Z<|z6<|zb<|zn Z (fun ck=>?_) (fun ck=>?_)
  ·have hk2 : k < f.blocks.length := by simp at ck; omega
   obtain ⟨b, hbk⟩ : ∃ b, f.blocks[k] = b := ⟨_, rfl⟩
   have hget : f.blocks[k]? = some b := by rw [q9 hk2, hbk]
   have hb := hf.2.2.2 b (hbk ▸ qd hk2)
   have hb1 := hb.1.lt
   have hb2 := hb.2.1.lt
   have hsucc := sumTo_succ f.blocks k hk2
   rw [hbk] at hsucc
   refine zf<|zb<|zd<|zSr<|z7 (zIM k je jj Z Z Z hget)<|zVGvloadWF Zc jj Z Z<|zo (cs := [.str ⟨#[]⟩, .raw (.slice none 0 0), .raw (.slice none 0 0), .int .i64 0, .int .i64 0, .int .i64 0, .int .i64 0]) jz Z Z<|fun i5 => zm jj Z Z Z Z Z Z .head Z<|z6<|zSr<|zVzMi Z<|z7 (zc j5 Z Z2 (by decide) Z Z)<|z7 (zi (c := .fro _ _) Zd Z ⟨_, .head⟩ Z)<|zVGvlenM jl Z<|z7 (zc j5 Z Z3 (by decide) Z Z)<|z7 (zi (c := .fro _ _) Zh Z ⟨_, .head⟩ Z)<|zVGvlenM jr Z<|zVzAd Z Z<|zVzAd Z Z<|zVzAi Z<|z6<|zSr<|z7 (zc j5 Z Z2 (by decide) Z Z)<|z7 (zi (c := .fro _ _) Zd Z ⟨_, .head⟩ Z)<|z7 (Gv.func Z Z)<|ze (containsFuncP_spec b.phis (by omega) (fun p hp => shaped1_spec f p (hb.2.2.1 p hp))) Z<|zVzMb Z<|zp (s := 30) Z (fun c1=>?_) (fun c1=>?_)
   ·refine z8 Z Z c1<|z8 Z Z c1<|z8 Z Z c1<|z8 Z Z c1<|zVzPt Z c1 Z<|zVzAb Z<|z6<|zSr<|zVzMb Z<|zVzMb Z<|z8 Z Z Z<|z8 Z Z Z<|z8 Z Z Z<|z8 Z Z Z<|z8 Z Z Z<|zVzPt Z Z Z<|z6<|ym Z Z<|zSr<|zVzAb Z<|z6<|zh<|zj (x := .bool _) Z ?_
    exact jb (by unfold shapedB; rw [show f.blocks.all (blkOK f) = false from Bool.eq_false_iff.2 (all_bad hk2 (by rw [hbk]; first | exact blk_bad1 (by assumption) | exact blk_bad2 (by assumption) | exact blk_bad3 (by assumption)))]; simp)
   ·refine za Z Z c1<|z7 (zc j5 Z Z3 (by decide) Z Z)<|za Z Z c1<|z7 (zi (c := .fro _ _) Zh Z ⟨_, .head⟩ Z)<|za Z Z c1<|z7 (Gv.func Z Z)<|za Z Z c1<|ze (containsFuncX_spec b.insts (by omega) (fun x hx => shaped2_spec f x (hb.2.2.2 x hx))) Z<|zVzPf Z c1 Z<|zVzAb Z<|z6<|zSr<|zVzMb Z<|zVzMb Z<|zp (s := 37) Z (fun c2=>?_) (fun c2=>?_)
    ·refine z8 Z Z c2<|z8 Z Z c2<|z8 Z Z c2<|z8 Z Z c2<|z8 Z Z c2<|zVzPt Z c2 Z<|z6<|ym Z Z<|zSr<|zVzAb Z<|z6<|zh<|zj (x := .bool _) Z ?_
     exact jb (by unfold shapedB; rw [show f.blocks.all (blkOK f) = false from Bool.eq_false_iff.2 (all_bad hk2 (by rw [hbk]; first | exact blk_bad1 (by assumption) | exact blk_bad2 (by assumption) | exact blk_bad3 (by assumption)))]; simp)
    ·refine za Z Z c2<|zVGvloadWF jk jg Z Z<|za Z Z c2<|z7 (zc j5 Z jq (by decide) Z Z)<|za Z Z c2<|z7 (yy (l := [_, _, _, _]) Zt jq Z ⟨_, .head⟩ Z Z)<|za Z Z c2<|ze (term_spec _ _) Z<|za Z Z c2<|zVGvnot Z<|zVzPf Z c2 Z<|z6<|zz Z (fun c3=>?_) (fun c3=>?_)
     ·refine zSr<|zVzAb Z<|z6<|zh<|zj (x := .bool _) Z ?_
      exact jb (by unfold shapedB; rw [show f.blocks.all (blkOK f) = false from Bool.eq_false_iff.2 (all_bad hk2 (by rw [hbk]; first | exact blk_bad1 (by assumption) | exact blk_bad2 (by assumption) | exact blk_bad3 (by assumption)))]; simp)
     ·refine zf<|zRg<|zVzAd Z Z<|zVzMi Z<|z6 ?_
      exact ⟨k + 1, zR3, ⟨congrArg (AV.int .i64) (by rw [hsucc]; omega), rfl, trivial⟩, ⟨_, (.drop (.refl _)), rfl⟩, ⟨hk2, by rw [hsucc]; omega, all_take hk2 hall (by rw [hbk]; exact blk_good (by assumption) (by assumption) (by assumption))⟩, by omega⟩
  ·have hkn : k = f.blocks.length := by simp at ck; omega
   subst hkn
   rw [qe] at hall ⊢
   refine zr<|zSr<|zVzMi Z<|z7 (Gv.leq Z Z)<|zVzAb Z<|z6<|zh<|zj (x := .bool _) Z ?_
   exact jb (by unfold shapedB; rw [ql hN, hall]; simp; omega)
theorem phiOK_iff (f : PFunc) (p : PPhi) : phiOK f p = true ↔ PhiP f p := by
 unfold phiOK PhiP
 simp only [qn, Bool.not_eq_true', decide_eq_false_iff_not, qp]
 constructor
 ·rintro ⟨⟨⟨⟨h1, h2⟩, h3⟩, h4⟩, h5⟩; exact ⟨h3, h2, by omega, h4, h5⟩
 ·rintro ⟨h3, h2, h1, h4, h5⟩; exact ⟨⟨⟨⟨by omega, h2⟩, h3⟩, h4⟩, h5⟩
theorem tyWord_ne (t : Int) : ¬ tyWord t = ⟨#[]⟩ ↔ 0 ≤ t ∧ t ≤ 2 := by
 unfold tyWord
 constructor
 ·intro h
  by_cases h0 : t = 0
  ·omega
  ·by_cases h1 : t = 1
   ·omega
   ·by_cases h2 : t = 2
    ·omega
    ·rw [if_neg h0, if_neg h1, if_neg h2] at h; exact absurd rfl h
 ·intro h e
  have : t = 0 ∨ t = 1 ∨ t = 2 := by omega
  rcases this with rfl | rfl | rfl <;> exact absurd e (by decide)
theorem blkOK_iff (f : PFunc) (b : PBlock) : blkOK f b = true ↔ BlkP f b := by
 unfold blkOK BlkP
 simp only [qn, Bool.not_eq_true', List.any_eq_false, Bool.not_eq_false]
 constructor
 ·rintro ⟨⟨h1, h2⟩, h3⟩
  exact ⟨fun p hp => (phiOK_iff f p).1 (by simpa using h1 p hp), fun x hx => (instOK_iff f x).1 (by simpa using h2 x hx), h3⟩
 ·rintro ⟨h1, h2, h3⟩
  exact ⟨⟨fun p hp => by simpa using (phiOK_iff f p).2 (h1 p hp), fun x hx => by simpa using (instOK_iff f x).2 (h2 x hx)⟩, h3⟩
theorem unlP_iff {l : List ByteArray} : UnlP l ↔ ∀ i (h : i < l.length), scanName l[i] = true ∧ l[i] ∉ l.take i := by
 unfold UnlP
 constructor <;> intro h i hi
 ·exact ⟨(h i hi).1, fun hm => by have := inB_iff.2 hm; rw [(h i hi).2] at this; cases this⟩
 ·exact ⟨(h i hi).1, Bool.eq_false_iff.2 fun hm => (h i hi).2 (inB_iff.1 hm)⟩
theorem vn_getE {f : PFunc} {i : Nat} (h : i < (VNames f).length) (h' : i < f.vars.length) : (VNames f)[i] = f.vars[i].name := by
 have : (VNames f)[i]? = some f.vars[i].name := by unfold VNames; rw [qh, q9 h']; rfl
 rw [q9 h] at this
 simpa using this
theorem bn_getE {f : PFunc} {i : Nat} (h : i < (BNames f).length) (h' : i < f.blocks.length) : (BNames f)[i] = f.blocks[i].name := by
 have : (BNames f)[i]? = some f.blocks[i].name := by unfold BNames; rw [qh, q9 h']; rfl
 rw [q9 h] at this
 simpa using this
theorem shapedB_eq (f : PFunc) : shapedB f = decide (ShapedP f) := by
 rw [Bool.eq_iff_iff, decide_eq_true_iff]
 unfold shapedB
 simp only [qn, decide_eq_true_iff, List.all_eq_true, blkOK_iff]
 unfold NamesP LensP ShapedP bad1
 simp only [unlP_iff]
 constructor
 ·rintro ⟨⟨h1, h2, ⟨g1, g2, g3, g4, g5⟩, h4, h5⟩, h6, h7⟩
  refine ⟨?_, h2, fun i h => ?_, fun i h => ?_, h7, h6⟩
  ·simp; omega
  ·have ht := (tyWord_ne _).1 (h1 i h)
   have hu := h4 i (by unfold VNames; simpa using h)
   have e := vn_getE (f := f) (i := i) (by unfold VNames; simpa using h) h
   rw [e] at hu
   exact ⟨by rw [name_eq]; exact hu.1, ht.1, ht.2, fun s hs e2 => hu.2 (by unfold VNames; rw [← List.map_take, ← e2]; exact hs)⟩
  ·have hu := h5 i (by unfold BNames; simpa using h)
   have e := bn_getE (f := f) (i := i) (by unfold BNames; simpa using h) h
   rw [e] at hu
   exact ⟨by rw [name_eq]; exact hu.1, fun s hs e2 => hu.2 (by unfold BNames; rw [← List.map_take, ← e2]; exact hs)⟩
 ·rintro ⟨h1, h2, h3, h4, h7, h6⟩
  simp at h1
  refine ⟨⟨fun i h => (tyWord_ne _).2 ⟨(h3 i h).2.1, (h3 i h).2.2.1⟩, h2, by omega, fun i h => ?_, fun i h => ?_⟩, h6, h7⟩
  ·have h' : i < f.vars.length := by simpa using h
   have e := vn_getE h h'
   rw [e]
   exact ⟨by rw [← name_eq]; exact (h3 i h').1, fun hm => (h3 i h').2.2.2 _ (by unfold VNames at hm; rw [← List.map_take] at hm; exact hm) rfl⟩
  ·have h' : i < f.blocks.length := by simpa using h
   have e := bn_getE h h'
   rw [e]
   exact ⟨by rw [← name_eq]; exact (h4 i h').1, fun hm => (h4 i h').2 _ (by unfold BNames at hm; rw [← List.map_take] at hm; exact hm) rfl⟩
end Go.Proofs.YtpojdepccecpgaaGreatDoor
namespace Go.Proofs.YtpojdepccecpgaaGreatDoor
open Go.Proofs.Tryz
open Go.Proofs Go.Lib Go.Shelf Go.RowKit
variable {E : World}
set_option maxRecDepth 20000
theorem ShapedP.ends {f : PFunc} (h : ShapedP f) : EndsOk f := by
 obtain ⟨h1, _, _, _, _, h6⟩ := h
 unfold bad1 at h1
 simp only [Bool.or_eq_false_iff, decide_eq_false_iff_not] at h1
 refine ⟨by omega, fun b hb c hc => ?_⟩
 have ht := (h6 b hb).2.2
 unfold termOK at ht
 unfold endsL at hc
 split at hc
 ·rename_i hk
  rw [if_pos hk] at ht
  simp only [qn, hasB, qp] at ht
  simp at hc; subst hc; exact ht.1.1
 ·rename_i hk
  rw [if_neg hk] at ht
  split at hc
  ·rename_i hk1
   rw [if_pos hk1] at ht
   simp only [qn, hasB, qp] at ht
   split at hc
   ·simp at hc; subst hc; exact ht.1.2
   ·simp at hc; rcases hc with rfl | rfl
    ·exact ht.1.2
    ·exact ht.2
  ·cases hc
def blkT (f : PFunc) (b : PBlock) : Bool := b.phis.all (phiT f) && b.insts.all (instT f) && termT f b.term
def typedB (f : PFunc) : Bool := shapedB f && f.blocks.all (blkT f)
theorem small.shaped {f : PFunc} (hf : small f) (hL : Letters E) : AFun prog E 57 [.agg (encF f)] (.bool (shapedB f)) :=
 Shaped_spec f hf.ok (by have := hf.1; omega) (by have := hf.2.2.1; omega) (by have := hf.2.1; omega) hf.names hL
theorem term_var {f : PFunc} {t : PTerm} (h : termOK f t = true) (hk : ¬ t.kind = 0) : hasV f t.var = true := by
 unfold termOK at h
 rw [if_neg hk] at h
 split at h
 ·simp only [qn] at h; exact h.1.1
 ·split at h
  ·simp only [qn] at h; exact h.1
  ·cases h
theorem Typed_spec (f : PFunc) (hf : small f) (hL : Letters E) : AFun prog E 81 [.agg (encF f)] (.int .i64 (if typedB f then 0 else 3)) := by
 have hok := hf.ok
 refine zl func81 Z (by decide) Z<|zSr<|y4 (cs := _) Z Z Z<|zVzAi Z<|z6<|zb<|zSr<|zVGvloadWF jk jg Z Z<|ze (hf.shaped hL) Z<|zVGvnot Z<|z6<|zz Z (fun cs=>?_) (fun cs=>?_)
 ·refine zSr<|zVzAi Z<|z6<|zh<|zj (x := .int _ _) Z ?_
  unfold typedB; rw [show shapedB f = false by simpa using cs]; rfl
 ·have hsb : shapedB f = true := by simpa using cs
  have hS : ShapedP f := by rw [shapedB_eq] at hsb; exact of_decide_eq_true hsb
  have hB := hS.2.2.2.2.2
  have hfl := hok.2.2.1.lt
  refine zf<|zb<|zSr<|zVzFF j6 Z jo Z Z<|zVzLf jw Z<|zVGvlenM je Z<|zVzMi Z<|z6<|zd<|zt (γ := Nat) [1, 13, 14] (fun k => [(15, .int .i64 k)]) (fun k => []) (fun k => k ≤ f.blocks.length ∧ (f.blocks.take k).all (blkT f) = true) (fun k => f.blocks.length - k) 0 zR1 zLe (⟨qc _, Z⟩) ?_
  rintro k ⟨hk, hall⟩
  refine zSr<|zVGvlss Z Z<|z6<|zb<|zn Z (fun ck=>?_) (fun ck=>?_)
  ·have hk2 : k < f.blocks.length := by simp at ck; omega
   obtain ⟨b, hbk⟩ : ∃ b, f.blocks[k] = b := ⟨_, rfl⟩
   have hget : f.blocks[k]? = some b := by rw [q9 hk2, hbk]
   have hmem : b ∈ f.blocks := hbk ▸ qd hk2
   obtain ⟨hph, hin, htm⟩ := hB b hmem
   have hbad : blkT f b = false → typedB f = false := fun h => by unfold typedB; rw [Bool.eq_false_iff.2 (all_bad hk2 (by rw [hbk]; exact h))]; simp
   have hs5 := hok.2.2.2 b hmem
   have hpl := hs5.1.lt
   have hil := hs5.2.1.lt
   refine zf<|zb<|zd<|zSr<|z7 (zIM k je jj Z Z Z hget)<|zVGvloadWF Zc jj Z Z<|zo (cs := [.str ⟨#[]⟩, .raw (.slice none 0 0), .raw (.slice none 0 0), .int .i64 0, .int .i64 0, .int .i64 0, .int .i64 0]) jz Z Z<|fun i4 => zm jj Z Z Z Z Z Z .head Z<|yh (y8 (t := 4) Z .head)<|z6<|zb<|zSr<|zVzFF j5 Z Z2 Z Z<|zVzLf Zd Z<|zVGvlenM jl Z<|zVzMi Z<|z6<|zd<|zt (γ := Nat) [1, 4, 13, 14, 15, 20, 21] (fun p => [(22, .int .i64 p)]) (fun p => []) (fun p => p ≤ b.phis.length ∧ (b.phis.take p).all (phiT f) = true) (fun p => b.phis.length - p) 0 zR1 zLe (⟨qc _, Z⟩) ?_
   rintro p ⟨hp, hpall⟩
   refine zSr<|zVGvlss Z Z<|z6<|zb<|zn Z (fun cp=>?_) (fun cp=>?_)
   ·have hp2 : p < b.phis.length := by simp at cp; omega
    have hpm := qd hp2
    have hP := hph _ hpm
    refine zf<|zb<|zd<|zSr<|z7 (zIM p jl jp Z Z Z (q9 hp2))<|zVGvloadWF Zf jp Z Z<|zo (cs := [.int .i64 0, .raw (.slice none 0 0), .raw (.slice none 0 0)]) Z4 Z Z<|fun i6 => zm jp Z Z Z Z Z Z .head Z<|yh (y8 (t := 6) Z .head)<|z6<|zSr<|zVGvloadWF jk jg Z Z<|zVGvloadWF Zf jp Z Z<|ze (yphi_spec f b.phis[p] (hs5.2.2.1 _ hpm) hP.2.2.2.1 hP.1) Z<|zVGvnot Z<|z6<|zz Z (fun cq=>?_) (fun cq=>?_)
    ·refine zSr<|zVzAi Z<|z6<|zh<|zj (x := .int _ _) Z ?_
     rw [hbad (by unfold blkT; rw [Bool.eq_false_iff.2 (all_bad hp2 (by simpa using cq))]; rfl)]; rfl
    ·refine zf<|zRg<|zVzAd Z Z<|zVzMi Z<|z6 ?_
     exact ⟨p + 1, zR7, zR1, zLe, ⟨hp2, all_take hp2 hpall (by simpa using cq)⟩, by omega⟩
   ·have hpn : p = b.phis.length := by simp at cp; omega
    subst hpn
    rw [qe] at hpall
    refine zr<|zb<|zSr<|zVzFF j5 Z Z3 Z Z<|zVzLf Zh Z<|zVGvlenM jr Z<|zVzMi Z<|z6<|zd<|zt (γ := Nat) [1, 4, 13, 14, 15, 32, 33] (fun q => [(34, .int .i64 q)]) (fun q => []) (fun q => q ≤ b.insts.length ∧ (b.insts.take q).all (instT f) = true) (fun q => b.insts.length - q) 0 zR1 zLe (⟨qc _, Z⟩) ?_
    rintro q ⟨hq, hqall⟩
    refine zSr<|zVGvlss Z Z<|z6<|zb<|zn Z (fun cp2=>?_) (fun cp2=>?_)
    ·have hq2 : q < b.insts.length := by simp at cp2; omega
     have hqm := qd hq2
     have hI := instP_F (hin _ hqm)
     have hId : makesB b.insts[q].op = true → hasV f b.insts[q].dst = true := fun h => by
      rcases hI.dst with ⟨d1, _⟩ | ⟨_, _, d3⟩
      ·rw [h] at d1; cases d1
      ·exact d3
     refine zf<|zb<|zd<|zSr<|z7 (zIM q jr jt Z Z Z (q9 hq2))<|zVGvloadWF Zk jt Z Z<|zo (cs := [.int .i64 0, .int .i64 0, .raw (.slice none 0 0), .int .i64 0]) Zb Z Z<|fun i8 => zm jt Z Z Z Z Z Z .head Z<|yh (y8 (t := 8) Z .head)<|z6<|zSr<|zVGvloadWF jk jg Z Z<|zVGvloadWF Zk jt Z Z<|ze (yinst_spec f b.insts[q] (List.all_eq_true.2 hI.args) hI.len hId) Z<|zVGvnot Z<|z6<|zz Z (fun cq=>?_) (fun cq=>?_)
     ·refine zSr<|zVzAi Z<|z6<|zh<|zj (x := .int _ _) Z ?_
      rw [hbad (by unfold blkT; rw [hpall, Bool.eq_false_iff.2 (all_bad hq2 (by simpa using cq))]; rfl)]; rfl
     ·refine zf<|zRg<|zVzAd Z Z<|zVzMi Z<|z6 ?_
      exact ⟨q + 1, zR7, zR1, zLe, ⟨hq2, all_take hq2 hqall (by simpa using cq)⟩, by omega⟩
    ·have hqn : q = b.insts.length := by simp at cp2; omega
     subst hqn
     rw [qe] at hqall
     refine zr<|zSr<|zVGvloadWF jk jg Z Z<|zVzFF j5 Z jq Z Z<|zVGvloadWF Zt jq Z Z<|ze (yterm_spec f b.term (term_var htm)) Z<|zVGvnot Z<|z6<|zz Z (fun ct=>?_) (fun ct=>?_)
     ·refine zSr<|zVzAi Z<|z6<|zh<|zj (x := .int _ _) Z ?_
      rw [hbad (by unfold blkT; rw [hpall, hqall]; simpa using ct)]; rfl
     ·refine zf<|zRg<|zVzAd Z Z<|zVzMi Z<|z6 ?_
      exact ⟨k + 1, zR3, zR1, zLe, ⟨hk2, all_take hk2 hall (by rw [hbk]; unfold blkT; rw [hpall, hqall]; simpa using ct)⟩, by omega⟩
  ·have hkn : k = f.blocks.length := by simp at ck; omega
   subst hkn
   rw [qe] at hall
   refine zr<|zSr<|zVzAi Z<|z6<|zh<|zj (x := .int _ _) Z ?_
   unfold typedB; rw [hsb, hall]; rfl
end Go.Proofs.YtpojdepccecpgaaGreatDoor
namespace Go.Proofs.YtpojdepccecpgaaGreatDoor
open Go.Proofs.Tryz
open Go.Proofs Go.Lib
def ord (f : PFunc) : List Int := orderT (EndsOf f) f.blocks.length
def noBlk : PBlock := ⟨⟨#[]⟩, [], [], ⟨0, 0, 0, 0⟩⟩
def blkX (f : PFunc) (x : Int) : PBlock := (f.blocks[x.toNat]?).getD noBlk
def prs (p : PPhi) : List (Int × Int) := p.from_.zip p.args
def lookP (p : PPhi) (x : Int) : Option Int := ((prs p).find? fun q => decide (q.1 = x)).map (·.2)
def posI (l : List Int) (x : Int) : Int := (l.idxOf x : Int)
def trmM (ν β : Int → Int) (t : PTerm) : PTerm :=
 if t.kind = 0 then ⟨t.kind, t.var, β t.to0, t.to1⟩ else if t.kind = 1 then ⟨t.kind, ν t.var, β t.to0, β t.to1⟩ else ⟨t.kind, ν t.var, t.to0, t.to1⟩
def insM (ν : Int → Int) (x : PInst) : PInst := ⟨x.op, if 0 ≤ x.dst then ν x.dst else x.dst, x.args.map ν, x.num⟩
def phM (ν : Int → Int) (p : PPhi) : PPhi := ⟨ν p.dst, p.args.map ν, p.from_⟩
def mapV (ν : Int → Int) (b : PBlock) : PBlock := ⟨b.name, b.phis.map (phM ν), b.insts.map (insM ν), trmM ν id b.term⟩
def phPairs (l : List Int) (p : PPhi) : List (Int × Int) := (List.range l.length).filterMap fun (n : Nat) => (l[n]?).bind fun x => (lookP p x).map fun a => ((n : Int), a)
def phD (l : List Int) (p : PPhi) : PPhi := ⟨p.dst, (phPairs l p).map (·.2), (phPairs l p).map (·.1)⟩
def nameK (c : UInt8) (i : Nat) : ByteArray := strL (c :: decDigits i)
def turnB (l : List Int) (i : Nat) (b : PBlock) : PBlock := ⟨nameK 98 i, b.phis.map (phD l), b.insts, trmM id (posI l) b.term⟩
def canB (f : PFunc) : List PBlock := (ord f).zipIdx.map fun q => turnB (ord f) q.2 (blkX f q.1)
def see1 (l : List Int) (v : Int) : List Int := if v ∈ l then l else l ++ [v]
def seeL (l vs : List Int) : List Int := vs.foldl see1 l
def phiVars (p : PPhi) : List Int := p.dst :: p.args
def instVars (x : PInst) : List Int := x.args ++ if 0 ≤ x.dst then [x.dst] else []
def termVars (t : PTerm) : List Int := if t.kind = 0 then [] else [t.var]
def blkVars (b : PBlock) : List Int := b.phis.flatMap phiVars ++ (b.insts.flatMap instVars ++ termVars b.term)
def vsL (f : PFunc) : List Int := seeL [] (f.params ++ (canB f).flatMap blkVars)
def canV (f : PFunc) (q : Int × Nat) : PVar := ⟨nameK 118 q.2, kindV f q.1⟩
def canD (f : PFunc) : PFunc := ⟨(vsL f).zipIdx.map (canV f), f.params, (canB f).map (mapV (posI (vsL f)))⟩
structure LikeB (R V : Int → Prop) (β ν : Int → Int) (b c : PBlock) : Prop where
 nphi : c.phis.length = b.phis.length
 phi : ∀ (i : Nat) (p q : PPhi), b.phis[i]? = some p → c.phis[i]? = some q → q.dst = ν p.dst ∧ V p.dst ∧ q.from_.length = q.args.length ∧ ∃ k : List (Int × Int), (∀ z, z ∈ k ↔ z ∈ prs p ∧ R z.1) ∧ List.Sublist k (prs p) ∧ (∀ z ∈ k, V z.2) ∧ (prs q).Perm (k.map fun z => (β z.1, ν z.2))
 insts : c.insts = b.insts.map (insM ν)
 instv : ∀ x ∈ b.insts, ∀ v ∈ instVars x, V v
 term : c.term = trmM ν β b.term
 termv : ∀ v ∈ termVars b.term, V v
structure Like (R V : Int → Prop) (β ν : Int → Int) (f g : PFunc) : Prop where
 okf : EndsOk f
 okg : EndsOk g
 r0 : R 0
 b0 : β 0 = 0
 rng : ∀ x, R x → (0 ≤ x ∧ x < f.blocks.length) ∧ 0 ≤ β x ∧ β x < g.blocks.length
 cl : ∀ x, R x → ∀ c ∈ EndsOf f x, R c
 onto : ∀ y : Int, 0 ≤ y → y < g.blocks.length → ∃ x, R x ∧ β x = y
 inj : ∀ x y, R x → R y → β x = β y → x = y
 blk : ∀ x, R x → LikeB R V β ν (blkX f x) (blkX g (β x))
 par : g.params = f.params
 parv : ∀ v ∈ f.params, V v ∧ ν v = v
 vty : ∀ v, V v → 0 ≤ v ∧ 0 ≤ ν v ∧ kindV g (ν v) = kindV f v
 vinj : ∀ u v, V u → V v → ν u = ν v → u = v
theorem ends_at {f : PFunc} {x : Int} (h0 : 0 ≤ x) (h1 : x < f.blocks.length) : EndsOf f x = endsL (blkX f x).term := by
 unfold EndsOf blkX
 rw [if_pos h0, q9 (by omega)]; rfl
theorem endsL_map {ν β : Int → Int} {t : PTerm} (h : ∀ x ∈ endsL t, ∀ y ∈ endsL t, β x = β y → x = y) : endsL (trmM ν β t) = (endsL t).map β := by
 unfold endsL trmM at *
 by_cases h0 : t.kind = 0
 ·rw [if_pos h0]; dsimp only; rw [if_pos h0, if_pos h0]; rfl
 ·rw [if_neg h0] at h ⊢
  by_cases h1 : t.kind = 1
  ·rw [if_pos h1] at h ⊢
   dsimp only
   rw [if_neg h0, if_pos h1]
   by_cases e : t.to0 = t.to1
   ·rw [if_pos e, if_pos (by rw [e]), if_neg h0, if_pos h1]; rfl
   ·rw [if_neg e] at h ⊢
    rw [if_neg fun k => e (h _ (by simp) _ (by simp) k), if_neg h0, if_pos h1]; rfl
  ·rw [if_neg h1]; dsimp only; rw [if_neg h0, if_neg h1]; rfl
section
variable {R V : Int → Prop} {β ν : Int → Int} {f g : PFunc} (h : Like R V β ν f g)
include h
theorem Like.leads {x : Int} (hx : R x) : EndsOf g (β x) = (EndsOf f x).map β := by
 have hr := h.rng x hx
 rw [ends_at hr.1.1 hr.1.2, ends_at hr.2.1 hr.2.2, (h.blk x hx).term]
 apply endsL_map
 rw [← ends_at hr.1.1 hr.1.2]
 exact fun a ha b hb => h.inj a b (h.cl x hx a ha) (h.cl x hx b hb)
theorem Like.reach {x : Int} (hx : x ∈ ord f) : R x := by
 have hr := (order_mem h.okf.grph.toEOk x).1 hx
 unfold Rch at hr
 induction hr with
 | refl _ => exact h.r0
 | step hw hc _ ih => exact h.cl _ (ih ((order_mem h.okf.grph.toEOk _).2 hw)) _ hc
theorem Like.orders : ord g = (ord f).map β := order_map h.okf.grph.toEOk h.okg.grph.toEOk h.b0 (fun x hx => h.leads (h.reach hx)) (fun x hx => (h.rng x (h.reach hx)).2) (fun x hx y hy => h.inj x y (h.reach hx) (h.reach hy))
end
theorem idx_map {β : Int → Int} {x : Int} : ∀ {l : List Int}, (∀ y ∈ l, β y = β x → y = x) → (l.map β).idxOf (β x) = l.idxOf x
 | [], _ => rfl
 | y :: l, h => by
  rw [List.map_cons, List.idxOf_cons, List.idxOf_cons, idx_map fun z hz => h z (.tail _ hz)]
  by_cases e : y = x
  ·rw [e]; simp
  ·have : ¬ β y = β x := fun k => e (h y (.head _) k)
   rw [beq_eq_false_iff_ne.2 e, beq_eq_false_iff_ne.2 this]
theorem see_map {ν : Int → Int} (V : Int → Prop) (hi : ∀ u v, V u → V v → ν u = ν v → u = v) : ∀ (vs l : List Int), (∀ v ∈ l, V v) → (∀ v ∈ vs, V v) → seeL (l.map ν) (vs.map ν) = (seeL l vs).map ν ∧ ∀ v ∈ seeL l vs, V v
 | [], l, hl, _ => ⟨rfl, hl⟩
 | v :: vs, l, hl, hv => by
  have hv0 := hv v (.head _)
  have e : see1 (l.map ν) (ν v) = (see1 l v).map ν := by
   unfold see1
   by_cases hm : v ∈ l
   ·rw [if_pos hm, if_pos (List.mem_map_of_mem hm)]
   ·rw [if_neg hm, if_neg (fun k => by obtain ⟨u, hu, e⟩ := List.mem_map.1 k; exact hm (hi u v (hl u hu) hv0 e ▸ hu)), qj]; rfl
  show seeL (see1 (l.map ν) (ν v)) (vs.map ν) = (seeL (see1 l v) vs).map ν ∧ ∀ u ∈ seeL (see1 l v) vs, V u
  rw [e]
  refine see_map V hi vs (see1 l v) (fun u hu => ?_) fun u hu => hv u (.tail _ hu)
  unfold see1 at hu
  split at hu
  ·exact hl u hu
  ·rcases List.mem_append.1 hu with k | k
   ·exact hl u k
   ·rw [List.mem_singleton.1 k]; exact hv0
end Go.Proofs.YtpojdepccecpgaaGreatDoor
