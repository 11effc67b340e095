/- The document's own functions: names, the table, digits, what is the same, what has a text. No conditions but bounds. -/
import Derived.Test.YtiojekbkamegdaaGreatDoorLc
set_option linter.unusedVariables false
set_option linter.unusedSimpArgs false
set_option linter.unusedSectionVars false
namespace Go.Proofs.YtiojekbkamegdaaGreatDoor
open Go.Proofs.Tryz
open Go.Proofs Go.Lib Go.Shelf Go.RowKit
theorem pl170 : Places prog 170 #[(0, 1), (1, 1), (2, 1)] [.str ⟨#[]⟩, .str ⟨#[]⟩, .str ⟨#[]⟩] := ⟨_, _, Zo, Yz, fun w => by kernel_rfl, rfl⟩
theorem ps171_27 : PlacesS prog 171 170 27 3 [.str ⟨#[]⟩, .str ⟨#[]⟩, .str ⟨#[]⟩, .str ⟨#[]⟩, .str ⟨#[]⟩, .str ⟨#[]⟩, .str ⟨#[]⟩, .str ⟨#[]⟩, .str ⟨#[]⟩, .str ⟨#[]⟩, .str ⟨#[]⟩, .str ⟨#[]⟩, .str ⟨#[]⟩, .str ⟨#[]⟩, .str ⟨#[]⟩, .str ⟨#[]⟩, .str ⟨#[]⟩, .str ⟨#[]⟩, .str ⟨#[]⟩, .str ⟨#[]⟩, .str ⟨#[]⟩, .str ⟨#[]⟩, .str ⟨#[]⟩, .str ⟨#[]⟩, .str ⟨#[]⟩, .str ⟨#[]⟩, .str ⟨#[]⟩, .str ⟨#[]⟩, .str ⟨#[]⟩, .str ⟨#[]⟩, .str ⟨#[]⟩, .str ⟨#[]⟩, .str ⟨#[]⟩, .str ⟨#[]⟩, .str ⟨#[]⟩, .str ⟨#[]⟩, .str ⟨#[]⟩, .str ⟨#[]⟩, .str ⟨#[]⟩, .str ⟨#[]⟩, .str ⟨#[]⟩, .str ⟨#[]⟩, .str ⟨#[]⟩, .str ⟨#[]⟩, .str ⟨#[]⟩, .str ⟨#[]⟩, .str ⟨#[]⟩, .str ⟨#[]⟩, .str ⟨#[]⟩, .str ⟨#[]⟩, .str ⟨#[]⟩, .str ⟨#[]⟩, .str ⟨#[]⟩, .str ⟨#[]⟩, .str ⟨#[]⟩, .str ⟨#[]⟩, .str ⟨#[]⟩, .str ⟨#[]⟩, .str ⟨#[]⟩, .str ⟨#[]⟩, .str ⟨#[]⟩, .str ⟨#[]⟩, .str ⟨#[]⟩, .str ⟨#[]⟩, .str ⟨#[]⟩, .str ⟨#[]⟩, .str ⟨#[]⟩, .str ⟨#[]⟩, .str ⟨#[]⟩, .str ⟨#[]⟩, .str ⟨#[]⟩, .str ⟨#[]⟩, .str ⟨#[]⟩, .str ⟨#[]⟩, .str ⟨#[]⟩, .str ⟨#[]⟩, .str ⟨#[]⟩, .str ⟨#[]⟩, .str ⟨#[]⟩, .str ⟨#[]⟩, .str ⟨#[]⟩] := ⟨_, Yt, Y9, Yz, by decide, by decide, by kernel_rfl⟩
set_option maxRecDepth 20000
variable {E : World}
def Letters (E : World) : Prop := Lib.TabIs prog E "unicode.properties" .u8 Lib.propertiesTab ∧ RVar 1 letterT E
theorem letter_spec (c : Int) (h1 : -2147483648 ≤ c) (h2 : c ≤ 2147483647) (hL : Letters E) : AFun prog E 193 [.int .i32 c] (.bool (isLetterU c)) :=
 AFun.ofBelow (vs := [.int .i32 c]) (r := .bool (isLetterU c)) func193 rfl (by decide) rfl fun w hw => Tryz.unicode_IsLetter_all c w h1 h2 (TabIs_below (g := 0) (by kernel_rfl) hL.1 hw) (RVar_below hL.2 hw)
theorem decode_ok (s : ByteArray) (p : Nat) : 1 ≤ (Utf8.decode s p).2 ∧ (Utf8.decode s p).1 ≤ 2097151 := by
 have h256 : ∀ k, (s.get! k).toNat < 256 := fun k => (s.get! k).toNat_lt
 unfold Utf8.decode
 dsimp only
 constructor
 ·repeat' split
  all_goals simp
 ·have h0 := h256 (p + 0)
  have h1 := h256 (p + 1)
  have h2 := h256 (p + 2)
  have h3 := h256 (p + 3)
  repeat' split
  all_goals (simp only [Utf8.runeError]; omega)
def okRune (c : Int) (n : Nat) : Bool := (isLetterU c && !decide (c = 65533)) || (!decide ((n : Int) = 0) && ((decide (48 ≤ c) && decide (c ≤ 57)) || decide (c = 46) || decide (c = 95)))
def nameFrom (s : ByteArray) (p n : Nat) : Bool :=
 if h : p < s.size then (if okRune (Utf8.decode s p).1 n then nameFrom s (p + (Utf8.decode s p).2) (n + 1) else false) else decide ((1 : Int) ≤ n) && decide ((n : Int) ≤ 16)
termination_by s.size - p
decreasing_by have := (decode_ok s p).1; omega
def nameB (s : ByteArray) : Bool := nameFrom s 0 0
theorem name_spec (s : ByteArray) (hs : s.size ≤ 140737488355328) (hL : Letters E) : AFun prog E 157 [.str s] (.bool (nameB s)) := by
 refine zp func157 Z (by decide) Z<|zSr<|zVzAb Z<|z2<|zSr<|zVzAi Z<|z2<|zc<|zSr<|z8 (yw (v := .str _) Z)<|AOps.rangeT Zi Z<|fun i8 => z2<|zi<|y7 (γ := Nat × Nat) [8] (fun g => [(3, .int .i64 g.2)]) (fun g => [(i8, .iter s g.1)]) (fun g => nameFrom s g.1 g.2 = nameB s ∧ g.2 ≤ g.1 ∧ g.2 ≤ s.size) (fun g => s.size - g.1) (0, 0) zR1 zLe (⟨Z, Nat.le_refl _, qt _⟩) ?_
 rintro ⟨p, n⟩ ⟨hp, hn, hn2⟩
 try dsimp only at *
 by_cases hlt : p < s.size
 ·obtain ⟨hd1, hd2⟩ := decode_ok s p
  have hstep := hp
  rw [nameFrom, dif_pos hlt] at hstep
  refine zSr<|AOps.nextT Z .head hlt<|z8 (zXb Z Z)<|z2<|zc<|yq Z Z<|zf<|zi<|zSr<|z8 (zXi Z Z)<|zVzAi Z<|z2<|zSr<|zVzMi Z<|zg (letter_spec _ (by omega) (by omega) hL) Z<|zVzMb Z<|zq (s := 14) Z (fun c1=>?_) (fun c1=>?_)
  ·refine z7 Z Z c1<|zVzMi Z<|z7 Z Z c1<|zVGvneqI Z Z<|zVzPt Z c1 Z<|zVzAb Z<|z2<|zc<|zSr<|zVzMb Z<|zVGvnot Z<|zVzMb Z<|zq (s := 20) Z (fun c2=>?_) (fun c2=>?_)
   ·refine z7 Z Z c2<|zVzMi Z<|z7 Z Z c2<|zVGveqlI Z Z<|z7 Z Z c2<|zVzMb Z<|zq (s := 23) Z (fun c3=>?_) (fun c3=>?_)
    ·refine z6 Z Z c3<|z6 Z Z c3<|z6 Z Z c3<|zh Z Z<|zh Z Z<|z6 Z Z c3<|z6 Z Z c3<|z6 Z Z c3<|zh Z Z<|zh Z Z<|z6 Z Z c3<|z6 Z Z c3<|zh Z Z<|zh Z Z<|z6 Z Z c3<|z7 Z Z c2<|zVzPt Z c3 Z<|zVzPt Z c2 Z<|z2<|yq Z Z<|zSr<|zVzAb Z<|z2<|zj<|zk (x := .bool _) Z ?_
     rw [if_neg (by simp_all [okRune] <;> omega)] at hstep; exact jb hstep
    ·refine z7 Z Z c3<|zVzMi Z<|z7 Z Z c3<|z8 (qd Z Z)<|z7 Z Z c3<|zVzMb Z<|zq (s := 26) Z (fun c4=>?_) (fun c4=>?_)
     ·refine z7 Z Z c4<|zVzMi Z<|z7 Z Z c4<|z8 (Gv.leq Z Z)<|z7 Z Z c3<|zVzPt Z c4 Z<|z7 Z Z c3<|zVGvnot Z<|z7 Z Z c3<|zVzMb Z<|zq (s := 31) Z (fun c5=>?_) (fun c5=>?_)
      ·refine z7 Z Z c5<|zVzMi Z<|z7 Z Z c5<|zVGvneqI Z Z<|z7 Z Z c3<|zVzPt Z c5 Z<|z7 Z Z c3<|zVzMb Z<|zq (s := 35) Z (fun c6=>?_) (fun c6=>?_)
       ·refine z7 Z Z c6<|zVzMi Z<|z7 Z Z c6<|zVGvneqI Z Z<|z7 Z Z c3<|zVzPt Z c6 Z<|z7 Z Z c2<|zVzPf Z c3 Z<|zVzPt Z c2 Z<|z2<|zu Z (fun c7=>?_) (fun c7=>?_)
        ·refine zSr<|zVzAb Z<|z2<|zj<|zk (x := .bool _) Z ?_
         rw [if_neg (by simp_all [okRune] <;> omega)] at hstep; exact jb hstep
        ·refine zf<|zRg<|zVzMi Z<|zVzAd Z Z<|zVzAi Z<|z2 ?_
         exact ⟨(p + (Utf8.decode s p).2, n + 1), zR1, zR1, zLe, ⟨by rw [if_pos (by simp_all [okRune] <;> omega)] at hstep; exact hstep, by dsimp only; omega, by dsimp only; omega⟩, by dsimp only; omega⟩
       ·refine z6 Z Z c6<|z6 Z Z c6<|z7 Z Z c3<|zVzPf Z c6 Z<|z7 Z Z c2<|zVzPf Z c3 Z<|zVzPt Z c2 Z<|z2<|yj Z Z<|zf<|zRg<|zVzMi Z<|zVzAd Z Z<|zVzAi Z<|z2 ?_
        exact ⟨(p + (Utf8.decode s p).2, n + 1), zR1, zR1, zLe, ⟨by rw [if_pos (by simp_all [okRune] <;> omega)] at hstep; exact hstep, by dsimp only; omega, by dsimp only; omega⟩, by dsimp only; omega⟩
      ·refine z6 Z Z c5<|z6 Z Z c5<|z7 Z Z c3<|zVzPf Z c5 Z<|z7 Z Z c3<|zVzMb Z<|z6 Z Z Z<|z6 Z Z Z<|z7 Z Z c3<|zVzPf Z Z Z<|z7 Z Z c2<|zVzPf Z c3 Z<|zVzPt Z c2 Z<|z2<|yj Z Z<|zf<|zRg<|zVzMi Z<|zVzAd Z Z<|zVzAi Z<|z2 ?_
       exact ⟨(p + (Utf8.decode s p).2, n + 1), zR1, zR1, zLe, ⟨by rw [if_pos (by simp_all [okRune] <;> omega)] at hstep; exact hstep, by dsimp only; omega, by dsimp only; omega⟩, by dsimp only; omega⟩
     ·refine z6 Z Z c4<|z6 Z Z c4<|z7 Z Z c3<|zVzPf Z c4 Z<|z7 Z Z c3<|zVGvnot Z<|z7 Z Z c3<|zVzMb Z<|z7 Z Z Z<|zVzMi Z<|z7 Z Z Z<|zVGvneqI Z Z<|z7 Z Z c3<|zVzPt Z Z Z<|z7 Z Z c3<|zVzMb Z<|zq (s := 35) Z (fun c8=>?_) (fun c8=>?_)
      ·refine z7 Z Z c8<|zVzMi Z<|z7 Z Z c8<|zVGvneqI Z Z<|z7 Z Z c3<|zVzPt Z c8 Z<|z7 Z Z c2<|zVzPf Z c3 Z<|zVzPt Z c2 Z<|z2<|zu Z (fun c9=>?_) (fun c9=>?_)
       ·refine zSr<|zVzAb Z<|z2<|zj<|zk (x := .bool _) Z ?_
        rw [if_neg (by simp_all [okRune] <;> omega)] at hstep; exact jb hstep
       ·refine zf<|zRg<|zVzMi Z<|zVzAd Z Z<|zVzAi Z<|z2 ?_
        exact ⟨(p + (Utf8.decode s p).2, n + 1), zR1, zR1, zLe, ⟨by rw [if_pos (by simp_all [okRune] <;> omega)] at hstep; exact hstep, by dsimp only; omega, by dsimp only; omega⟩, by dsimp only; omega⟩
      ·refine z6 Z Z c8<|z6 Z Z c8<|z7 Z Z c3<|zVzPf Z c8 Z<|z7 Z Z c2<|zVzPf Z c3 Z<|zVzPt Z c2 Z<|z2<|yj Z Z<|zf<|zRg<|zVzMi Z<|zVzAd Z Z<|zVzAi Z<|z2 ?_
       exact ⟨(p + (Utf8.decode s p).2, n + 1), zR1, zR1, zLe, ⟨by rw [if_pos (by simp_all [okRune] <;> omega)] at hstep; exact hstep, by dsimp only; omega, by dsimp only; omega⟩, by dsimp only; omega⟩
   ·refine z6 Z Z c2<|z6 Z Z c2<|z6 Z Z c2<|zh Z Z<|zh Z Z<|zh Z Z<|zh Z Z<|zh Z Z<|zh Z Z<|zh Z Z<|zh Z Z<|zh Z Z<|zh Z Z<|zh Z Z<|zh Z Z<|zh Z Z<|zh Z Z<|zh Z Z<|z6 Z Z c2<|zVzPf Z c2 Z<|z2<|yj Z Z<|zf<|zRg<|zVzMi Z<|zVzAd Z Z<|zVzAi Z<|z2 ?_
    exact ⟨(p + (Utf8.decode s p).2, n + 1), zR1, zR1, zLe, ⟨by rw [if_pos (by simp_all [okRune] <;> omega)] at hstep; exact hstep, by dsimp only; omega, by dsimp only; omega⟩, by dsimp only; omega⟩
  ·refine z6 Z Z c1<|z6 Z Z c1<|zVzPf Z c1 Z<|zVzAb Z<|z2<|zc<|zSr<|zVzMb Z<|zVGvnot Z<|zVzMb Z<|z7 Z Z Z<|zVzMi Z<|z7 Z Z Z<|zVGveqlI Z Z<|z7 Z Z Z<|zVzMb Z<|zq (s := 23) Z (fun c10=>?_) (fun c10=>?_)
   ·refine z6 Z Z c10<|z6 Z Z c10<|z6 Z Z c10<|zh Z Z<|zh Z Z<|z6 Z Z c10<|z6 Z Z c10<|z6 Z Z c10<|zh Z Z<|zh Z Z<|z6 Z Z c10<|z6 Z Z c10<|zh Z Z<|zh Z Z<|z6 Z Z c10<|z7 Z Z Z<|zVzPt Z c10 Z<|zVzPt Z Z Z<|z2<|yq Z Z<|zSr<|zVzAb Z<|z2<|zj<|zk (x := .bool _) Z ?_
    rw [if_neg (by simp_all [okRune] <;> omega)] at hstep; exact jb hstep
   ·refine z7 Z Z c10<|zVzMi Z<|z7 Z Z c10<|z8 (qd Z Z)<|z7 Z Z c10<|zVzMb Z<|zq (s := 26) Z (fun c11=>?_) (fun c11=>?_)
    ·refine z7 Z Z c11<|zVzMi Z<|z7 Z Z c11<|z8 (Gv.leq Z Z)<|z7 Z Z c10<|zVzPt Z c11 Z<|z7 Z Z c10<|zVGvnot Z<|z7 Z Z c10<|zVzMb Z<|zq (s := 31) Z (fun c12=>?_) (fun c12=>?_)
     ·refine z7 Z Z c12<|zVzMi Z<|z7 Z Z c12<|zVGvneqI Z Z<|z7 Z Z c10<|zVzPt Z c12 Z<|z7 Z Z c10<|zVzMb Z<|zq (s := 35) Z (fun c13=>?_) (fun c13=>?_)
      ·refine z7 Z Z c13<|zVzMi Z<|z7 Z Z c13<|zVGvneqI Z Z<|z7 Z Z c10<|zVzPt Z c13 Z<|z7 Z Z Z<|zVzPf Z c10 Z<|zVzPt Z Z Z<|z2<|zu Z (fun c14=>?_) (fun c14=>?_)
       ·refine zSr<|zVzAb Z<|z2<|zj<|zk (x := .bool _) Z ?_
        rw [if_neg (by simp_all [okRune] <;> omega)] at hstep; exact jb hstep
       ·refine zf<|zRg<|zVzMi Z<|zVzAd Z Z<|zVzAi Z<|z2 ?_
        exact ⟨(p + (Utf8.decode s p).2, n + 1), zR1, zR1, zLe, ⟨by rw [if_pos (by simp_all [okRune] <;> omega)] at hstep; exact hstep, by dsimp only; omega, by dsimp only; omega⟩, by dsimp only; omega⟩
      ·refine z6 Z Z c13<|z6 Z Z c13<|z7 Z Z c10<|zVzPf Z c13 Z<|z7 Z Z Z<|zVzPf Z c10 Z<|zVzPt Z Z Z<|z2<|yj Z Z<|zf<|zRg<|zVzMi Z<|zVzAd Z Z<|zVzAi Z<|z2 ?_
       exact ⟨(p + (Utf8.decode s p).2, n + 1), zR1, zR1, zLe, ⟨by rw [if_pos (by simp_all [okRune] <;> omega)] at hstep; exact hstep, by dsimp only; omega, by dsimp only; omega⟩, by dsimp only; omega⟩
     ·refine z6 Z Z c12<|z6 Z Z c12<|z7 Z Z c10<|zVzPf Z c12 Z<|z7 Z Z c10<|zVzMb Z<|z6 Z Z Z<|z6 Z Z Z<|z7 Z Z c10<|zVzPf Z Z Z<|z7 Z Z Z<|zVzPf Z c10 Z<|zVzPt Z Z Z<|z2<|yj Z Z<|zf<|zRg<|zVzMi Z<|zVzAd Z Z<|zVzAi Z<|z2 ?_
      exact ⟨(p + (Utf8.decode s p).2, n + 1), zR1, zR1, zLe, ⟨by rw [if_pos (by simp_all [okRune] <;> omega)] at hstep; exact hstep, by dsimp only; omega, by dsimp only; omega⟩, by dsimp only; omega⟩
    ·refine z6 Z Z c11<|z6 Z Z c11<|z7 Z Z c10<|zVzPf Z c11 Z<|z7 Z Z c10<|zVGvnot Z<|z7 Z Z c10<|zVzMb Z<|z7 Z Z Z<|zVzMi Z<|z7 Z Z Z<|zVGvneqI Z Z<|z7 Z Z c10<|zVzPt Z Z Z<|z7 Z Z c10<|zVzMb Z<|zq (s := 35) Z (fun c15=>?_) (fun c15=>?_)
     ·refine z7 Z Z c15<|zVzMi Z<|z7 Z Z c15<|zVGvneqI Z Z<|z7 Z Z c10<|zVzPt Z c15 Z<|z7 Z Z Z<|zVzPf Z c10 Z<|zVzPt Z Z Z<|z2<|zu Z (fun c16=>?_) (fun c16=>?_)
      ·refine zSr<|zVzAb Z<|z2<|zj<|zk (x := .bool _) Z ?_
       rw [if_neg (by simp_all [okRune] <;> omega)] at hstep; exact jb hstep
      ·refine zf<|zRg<|zVzMi Z<|zVzAd Z Z<|zVzAi Z<|z2 ?_
       exact ⟨(p + (Utf8.decode s p).2, n + 1), zR1, zR1, zLe, ⟨by rw [if_pos (by simp_all [okRune] <;> omega)] at hstep; exact hstep, by dsimp only; omega, by dsimp only; omega⟩, by dsimp only; omega⟩
     ·refine z6 Z Z c15<|z6 Z Z c15<|z7 Z Z c10<|zVzPf Z c15 Z<|z7 Z Z Z<|zVzPf Z c10 Z<|zVzPt Z Z Z<|z2<|yj Z Z<|zf<|zRg<|zVzMi Z<|zVzAd Z Z<|zVzAi Z<|z2 ?_
      exact ⟨(p + (Utf8.decode s p).2, n + 1), zR1, zR1, zLe, ⟨by rw [if_pos (by simp_all [okRune] <;> omega)] at hstep; exact hstep, by dsimp only; omega, by dsimp only; omega⟩, by dsimp only; omega⟩
 ·rw [nameFrom, dif_neg hlt] at hp
  refine zSr<|AOps.nextTover Z .head hlt<|z8 (zXb Z Z)<|z2<|zc<|yj Z Z<|y6<|zSr<|zVzMi Z<|z8 (qd Z Z)<|zVzMb Z<|zq (s := 45) Z (fun c17=>?_) (fun c17=>?_)
  ·refine z7 Z Z c17<|zVzMi Z<|z7 Z Z c17<|z8 (Gv.leq Z Z)<|zVzPt Z c17 Z<|zVzAb Z<|z2<|zj<|zk (x := .bool _) Z ?_
   rw [← hp]; exact jb (by simp_all <;> (intros; omega))
  ·refine z6 Z Z c17<|z6 Z Z c17<|zVzPf Z c17 Z<|zVzAb Z<|z2<|zj<|zk (x := .bool _) Z ?_
   rw [← hp]; exact jb (by simp_all <;> (intros; omega))
theorem rows_spec : AFun prog E 102 [] (.fro 3 (kindT.map encK)) := by
 refine zp func102 Z (by decide) Z<|zSr<|z8 (zAr Z)<|z2<|zSr<|z8 (zz (cps := [(0, [_]), (1, [_]), (2, [_])]) (rs := [_, _, _]) pl170 Z Z Z)<|z8 (zz (cps := [(0, [_]), (1, [_]), (2, [_])]) (rs := [_, _, _]) pl170 Z Z Z)<|z8 (zz (cps := [(0, [_]), (1, [_]), (2, [_])]) (rs := [_, _, _]) pl170 Z Z Z)<|z8 (zz (cps := [(0, [_]), (1, [_]), (2, [_])]) (rs := [_, _, _]) pl170 Z Z Z)<|z8 (zz (cps := [(0, [_]), (1, [_]), (2, [_])]) (rs := [_, _, _]) pl170 Z Z Z)<|z8 (zz (cps := [(0, [_]), (1, [_]), (2, [_])]) (rs := [_, _, _]) pl170 Z Z Z)<|z8 (zz (cps := [(0, [_]), (1, [_]), (2, [_])]) (rs := [_, _, _]) pl170 Z Z Z)<|z8 (zz (cps := [(0, [_]), (1, [_]), (2, [_])]) (rs := [_, _, _]) pl170 Z Z Z)<|z8 (zz (cps := [(0, [_]), (1, [_]), (2, [_])]) (rs := [_, _, _]) pl170 Z Z Z)<|z8 (zz (cps := [(0, [_]), (1, [_]), (2, [_])]) (rs := [_, _, _]) pl170 Z Z Z)<|z8 (zz (cps := [(0, [_]), (1, [_]), (2, [_])]) (rs := [_, _, _]) pl170 Z Z Z)<|z8 (zz (cps := [(0, [_]), (1, [_]), (2, [_])]) (rs := [_, _, _]) pl170 Z Z Z)<|z8 (zz (cps := [(0, [_]), (1, [_]), (2, [_])]) (rs := [_, _, _]) pl170 Z Z Z)<|z8 (zz (cps := [(0, [_]), (1, [_]), (2, [_])]) (rs := [_, _, _]) pl170 Z Z Z)<|z8 (zz (cps := [(0, [_]), (1, [_]), (2, [_])]) (rs := [_, _, _]) pl170 Z Z Z)<|z8 (zz (cps := [(0, [_]), (1, [_]), (2, [_])]) (rs := [_, _, _]) pl170 Z Z Z)<|z8 (zz (cps := [(0, [_]), (1, [_]), (2, [_])]) (rs := [_, _, _]) pl170 Z Z Z)<|z8 (zz (cps := [(0, [_]), (1, [_]), (2, [_])]) (rs := [_, _, _]) pl170 Z Z Z)<|z8 (zz (cps := [(0, [_]), (1, [_]), (2, [_])]) (rs := [_, _, _]) pl170 Z Z Z)<|z8 (zz (cps := [(0, [_]), (1, [_]), (2, [_])]) (rs := [_, _, _]) pl170 Z Z Z)<|z8 (zz (cps := [(0, [_]), (1, [_]), (2, [_])]) (rs := [_, _, _]) pl170 Z Z Z)<|z8 (zz (cps := [(0, [_]), (1, [_]), (2, [_])]) (rs := [_, _, _]) pl170 Z Z Z)<|z8 (zz (cps := [(0, [_]), (1, [_]), (2, [_])]) (rs := [_, _, _]) pl170 Z Z Z)<|z8 (zz (cps := [(0, [_]), (1, [_]), (2, [_])]) (rs := [_, _, _]) pl170 Z Z Z)<|z8 (zz (cps := [(0, [_]), (1, [_]), (2, [_])]) (rs := [_, _, _]) pl170 Z Z Z)<|z8 (zz (cps := [(0, [_]), (1, [_]), (2, [_])]) (rs := [_, _, _]) pl170 Z Z Z)<|z8 (zz (cps := [(0, [_]), (1, [_]), (2, [_])]) (rs := [_, _, _]) pl170 Z Z Z)<|zx (rows := [[_, _, _], [_, _, _], [_, _, _], [_, _, _], [_, _, _], [_, _, _], [_, _, _], [_, _, _], [_, _, _], [_, _, _], [_, _, _], [_, _, _], [_, _, _], [_, _, _], [_, _, _], [_, _, _], [_, _, _], [_, _, _], [_, _, _], [_, _, _], [_, _, _], [_, _, _], [_, _, _], [_, _, _], [_, _, _], [_, _, _], [_, _, _]]) ps171_27 Z Z Z Z Z<|z8 (zAf Z)<|z2<|zj<|zk (x := .fro _ _) Z ?_
 rfl
theorem in_spec (k n : Int) : AFun prog E 158 [.int .i64 k, .int .i64 n] (.bool (decide (0 ≤ k) && decide (k < n))) := by
 refine zp func158 Z (by decide) Z<|zSr<|zVzAb Z<|z2<|zSr<|zVzMi Z<|z8 (qd Z Z)<|zVzMb Z<|zq (s := 7) Z (fun c18=>?_) (fun c18=>?_)
 ·refine z7 Z Z c18<|zVzMi Z<|z7 Z Z c18<|zVzMi Z<|z7 Z Z c18<|zVGvlss Z Z<|zVzPt Z c18 Z<|zVzAb Z<|z2<|zj<|zk (x := .bool _) Z ?_
  exact jb (by simp_all <;> omega)
 ·refine z6 Z Z c18<|z6 Z Z c18<|z6 Z Z c18<|zVzPf Z c18 Z<|zVzAb Z<|z2<|zj<|zk (x := .bool _) Z ?_
  exact jb (by simp_all <;> omega)
def strL (l : List UInt8) : ByteArray := ⟨l.toArray⟩
end Go.Proofs.YtiojekbkamegdaaGreatDoor
