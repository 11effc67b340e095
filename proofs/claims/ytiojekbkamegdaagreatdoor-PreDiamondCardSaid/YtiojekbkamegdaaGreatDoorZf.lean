/- The document's own functions: names, the table, digits, what is the same, what has a text. No conditions but bounds. -/
import Derived.Test.YtiojekbkamegdaaGreatDoorZe
import Derived.Test.YtiojekbkamegdaaGreatDoorZc
set_option linter.unusedVariables false
set_option linter.unusedSimpArgs false
set_option linter.unusedSectionVars false
namespace Go.Proofs.YtiojekbkamegdaaGreatDoor
open Go.Proofs.Tryz
open Go.Proofs Go.Lib Go.Shelf Go.RowKit
theorem pl170 : Places prog 170 #[(0, 1), (1, 1), (2, 1)] [.str ⟨#[]⟩, .str ⟨#[]⟩, .str ⟨#[]⟩] := ⟨_, _, underlying170, zeroValue170, fun w => by kernel_rfl, rfl⟩
theorem ps171_27 : PlacesS prog 171 170 27 3 [.str ⟨#[]⟩, .str ⟨#[]⟩, .str ⟨#[]⟩, .str ⟨#[]⟩, .str ⟨#[]⟩, .str ⟨#[]⟩, .str ⟨#[]⟩, .str ⟨#[]⟩, .str ⟨#[]⟩, .str ⟨#[]⟩, .str ⟨#[]⟩, .str ⟨#[]⟩, .str ⟨#[]⟩, .str ⟨#[]⟩, .str ⟨#[]⟩, .str ⟨#[]⟩, .str ⟨#[]⟩, .str ⟨#[]⟩, .str ⟨#[]⟩, .str ⟨#[]⟩, .str ⟨#[]⟩, .str ⟨#[]⟩, .str ⟨#[]⟩, .str ⟨#[]⟩, .str ⟨#[]⟩, .str ⟨#[]⟩, .str ⟨#[]⟩, .str ⟨#[]⟩, .str ⟨#[]⟩, .str ⟨#[]⟩, .str ⟨#[]⟩, .str ⟨#[]⟩, .str ⟨#[]⟩, .str ⟨#[]⟩, .str ⟨#[]⟩, .str ⟨#[]⟩, .str ⟨#[]⟩, .str ⟨#[]⟩, .str ⟨#[]⟩, .str ⟨#[]⟩, .str ⟨#[]⟩, .str ⟨#[]⟩, .str ⟨#[]⟩, .str ⟨#[]⟩, .str ⟨#[]⟩, .str ⟨#[]⟩, .str ⟨#[]⟩, .str ⟨#[]⟩, .str ⟨#[]⟩, .str ⟨#[]⟩, .str ⟨#[]⟩, .str ⟨#[]⟩, .str ⟨#[]⟩, .str ⟨#[]⟩, .str ⟨#[]⟩, .str ⟨#[]⟩, .str ⟨#[]⟩, .str ⟨#[]⟩, .str ⟨#[]⟩, .str ⟨#[]⟩, .str ⟨#[]⟩, .str ⟨#[]⟩, .str ⟨#[]⟩, .str ⟨#[]⟩, .str ⟨#[]⟩, .str ⟨#[]⟩, .str ⟨#[]⟩, .str ⟨#[]⟩, .str ⟨#[]⟩, .str ⟨#[]⟩, .str ⟨#[]⟩, .str ⟨#[]⟩, .str ⟨#[]⟩, .str ⟨#[]⟩, .str ⟨#[]⟩, .str ⟨#[]⟩, .str ⟨#[]⟩, .str ⟨#[]⟩, .str ⟨#[]⟩, .str ⟨#[]⟩, .str ⟨#[]⟩] := ⟨_, underlying171, sizeOf170, zeroValue170, by decide, by decide, by kernel_rfl⟩
set_option maxRecDepth 20000
variable {E : World}
def Letters (E : World) : Prop := Lib.TabIs prog E "unicode.properties" .u8 Lib.propertiesTab ∧ RVar 1 letterT E
theorem letter_spec (c : Int) (h1 : -2147483648 ≤ c) (h2 : c ≤ 2147483647) (hL : Letters E) : AFun prog E 193 [.int .i32 c] (.bool (isLetterU c)) :=
 AFun.ofBelow (vs := [.int .i32 c]) (r := .bool (isLetterU c)) func193 rfl (by decide) rfl fun w hw => Tryz.unicode_IsLetter_all c w h1 h2 (TabIs_below (g := 0) (by kernel_rfl) hL.1 hw) (RVar_below hL.2 hw)
theorem decode_ok (s : ByteArray) (p : Nat) : 1 ≤ (Utf8.decode s p).2 ∧ (Utf8.decode s p).1 ≤ 2097151 := by
 have h256 : ∀ k, (s.get! k).toNat < 256 := fun k => (s.get! k).toNat_lt
 unfold Utf8.decode
 dsimp only
 constructor
 ·repeat' split
  all_goals simp
 ·have h0 := h256 (p + 0)
  have h1 := h256 (p + 1)
  have h2 := h256 (p + 2)
  have h3 := h256 (p + 3)
  repeat' split
  all_goals (simp only [Utf8.runeError]; omega)
def okRune (c : Int) (n : Nat) : Bool := (isLetterU c && !decide (c = 65533)) || (!decide ((n : Int) = 0) && ((decide (48 ≤ c) && decide (c ≤ 57)) || decide (c = 46) || decide (c = 95)))
def nameFrom (s : ByteArray) (p n : Nat) : Bool :=
 if h : p < s.size then (if okRune (Utf8.decode s p).1 n then nameFrom s (p + (Utf8.decode s p).2) (n + 1) else false) else decide ((1 : Int) ≤ n) && decide ((n : Int) ≤ 16)
termination_by s.size - p
decreasing_by have := (decode_ok s p).1; omega
def nameB (s : ByteArray) : Bool := nameFrom s 0 0
theorem name_spec (s : ByteArray) (hs : s.size ≤ 140737488355328) (hL : Letters E) : AFun prog E 157 [.str s] (.bool (nameB s)) := by
 refine zo func157 rfl (by decide) rfl<|zSr<|z2 (zAb rfl)<|z6<|zSr<|z2 (zAi rfl)<|z6<|zd<|zSr<|z2 (yq (v := .str _) rfl)<|AOps.rangeT underlying9 rfl<|fun i8 => z6<|zi<|y5 (γ := Nat × Nat) [8] (fun g => [(3, .int .i64 g.2)]) (fun g => [(i8, .iter s g.1)]) (fun g => nameFrom s g.1 g.2 = nameB s ∧ g.2 ≤ g.1 ∧ g.2 ≤ s.size) (fun g => s.size - g.1) (0, 0) zR1 zLe (⟨rfl, Nat.le_refl _, qt _⟩) ?_
 rintro ⟨p, n⟩ ⟨hp, hn, hn2⟩
 try dsimp only at *
 by_cases hlt : p < s.size
 ·obtain ⟨hd1, hd2⟩ := decode_ok s p
  have hstep := hp
  rw [nameFrom, dif_pos hlt] at hstep
  refine zSr<|AOps.nextT rfl .head hlt<|z2 (zXb rfl rfl)<|z6<|zd<|yo rfl rfl<|zh<|zi<|zSr<|z2 (zXi rfl rfl)<|z2 (zAi rfl)<|z6<|zSr<|z2 (zMi rfl)<|zf (letter_spec _ (by omega) (by omega) hL) rfl<|z2 (zMb rfl)<|zt (s := 14) rfl (fun c1=>?_) (fun c1=>?_)
  ·refine z8 rfl rfl c1<|z2 (zMi rfl)<|z8 rfl rfl c1<|z2 (yj rfl rfl)<|z2 (zPt rfl c1 rfl)<|z2 (zAb rfl)<|z6<|zd<|zSr<|z2 (zMb rfl)<|z2 (yl rfl)<|z2 (zMb rfl)<|zt (s := 20) rfl (fun c2=>?_) (fun c2=>?_)
   ·refine z8 rfl rfl c2<|z2 (zMi rfl)<|z8 rfl rfl c2<|z2 (y7 rfl rfl)<|z8 rfl rfl c2<|z2 (zMb rfl)<|zt (s := 23) rfl (fun c3=>?_) (fun c3=>?_)
    ·refine z7 rfl rfl c3<|z7 rfl rfl c3<|z7 rfl rfl c3<|zj rfl rfl<|zj rfl rfl<|z7 rfl rfl c3<|z7 rfl rfl c3<|z7 rfl rfl c3<|zj rfl rfl<|zj rfl rfl<|z7 rfl rfl c3<|z7 rfl rfl c3<|zj rfl rfl<|zj rfl rfl<|z7 rfl rfl c3<|z8 rfl rfl c2<|z2 (zPt rfl c3 rfl)<|z2 (zPt rfl c2 rfl)<|z6<|yo rfl rfl<|zSr<|z2 (zAb rfl)<|z6<|zg<|zk (x := .bool _) rfl ?_
     rw [if_neg (by simp_all [okRune] <;> omega)] at hstep; exact jb hstep
    ·refine z8 rfl rfl c3<|z2 (zMi rfl)<|z8 rfl rfl c3<|z2 (q6 rfl rfl)<|z8 rfl rfl c3<|z2 (zMb rfl)<|zt (s := 26) rfl (fun c4=>?_) (fun c4=>?_)
     ·refine z8 rfl rfl c4<|z2 (zMi rfl)<|z8 rfl rfl c4<|z2 (Gv.leq rfl rfl)<|z8 rfl rfl c3<|z2 (zPt rfl c4 rfl)<|z8 rfl rfl c3<|z2 (yl rfl)<|z8 rfl rfl c3<|z2 (zMb rfl)<|zt (s := 31) rfl (fun c5=>?_) (fun c5=>?_)
      ·refine z8 rfl rfl c5<|z2 (zMi rfl)<|z8 rfl rfl c5<|z2 (yj rfl rfl)<|z8 rfl rfl c3<|z2 (zPt rfl c5 rfl)<|z8 rfl rfl c3<|z2 (zMb rfl)<|zt (s := 35) rfl (fun c6=>?_) (fun c6=>?_)
       ·refine z8 rfl rfl c6<|z2 (zMi rfl)<|z8 rfl rfl c6<|z2 (yj rfl rfl)<|z8 rfl rfl c3<|z2 (zPt rfl c6 rfl)<|z8 rfl rfl c2<|z2 (zPf rfl c3 rfl)<|z2 (zPt rfl c2 rfl)<|z6<|zz rfl (fun c7=>?_) (fun c7=>?_)
        ·refine zSr<|z2 (zAb rfl)<|z6<|zg<|zk (x := .bool _) rfl ?_
         rw [if_neg (by simp_all [okRune] <;> omega)] at hstep; exact jb hstep
        ·refine zh<|zRg<|z2 (zMi rfl)<|z2 (zAd rfl rfl)<|z2 (zAi rfl)<|z6 ?_
         exact ⟨(p + (Utf8.decode s p).2, n + 1), zR1, zR1, zLe, ⟨by rw [if_pos (by simp_all [okRune] <;> omega)] at hstep; exact hstep, by dsimp only; omega, by dsimp only; omega⟩, by dsimp only; omega⟩
       ·refine z7 rfl rfl c6<|z7 rfl rfl c6<|z8 rfl rfl c3<|z2 (zPf rfl c6 rfl)<|z8 rfl rfl c2<|z2 (zPf rfl c3 rfl)<|z2 (zPt rfl c2 rfl)<|z6<|ym rfl rfl<|zh<|zRg<|z2 (zMi rfl)<|z2 (zAd rfl rfl)<|z2 (zAi rfl)<|z6 ?_
        exact ⟨(p + (Utf8.decode s p).2, n + 1), zR1, zR1, zLe, ⟨by rw [if_pos (by simp_all [okRune] <;> omega)] at hstep; exact hstep, by dsimp only; omega, by dsimp only; omega⟩, by dsimp only; omega⟩
      ·refine z7 rfl rfl c5<|z7 rfl rfl c5<|z8 rfl rfl c3<|z2 (zPf rfl c5 rfl)<|z8 rfl rfl c3<|z2 (zMb rfl)<|z7 rfl rfl rfl<|z7 rfl rfl rfl<|z8 rfl rfl c3<|z2 (zPf rfl rfl rfl)<|z8 rfl rfl c2<|z2 (zPf rfl c3 rfl)<|z2 (zPt rfl c2 rfl)<|z6<|ym rfl rfl<|zh<|zRg<|z2 (zMi rfl)<|z2 (zAd rfl rfl)<|z2 (zAi rfl)<|z6 ?_
       exact ⟨(p + (Utf8.decode s p).2, n + 1), zR1, zR1, zLe, ⟨by rw [if_pos (by simp_all [okRune] <;> omega)] at hstep; exact hstep, by dsimp only; omega, by dsimp only; omega⟩, by dsimp only; omega⟩
     ·refine z7 rfl rfl c4<|z7 rfl rfl c4<|z8 rfl rfl c3<|z2 (zPf rfl c4 rfl)<|z8 rfl rfl c3<|z2 (yl rfl)<|z8 rfl rfl c3<|z2 (zMb rfl)<|z8 rfl rfl rfl<|z2 (zMi rfl)<|z8 rfl rfl rfl<|z2 (yj rfl rfl)<|z8 rfl rfl c3<|z2 (zPt rfl rfl rfl)<|z8 rfl rfl c3<|z2 (zMb rfl)<|zt (s := 35) rfl (fun c8=>?_) (fun c8=>?_)
      ·refine z8 rfl rfl c8<|z2 (zMi rfl)<|z8 rfl rfl c8<|z2 (yj rfl rfl)<|z8 rfl rfl c3<|z2 (zPt rfl c8 rfl)<|z8 rfl rfl c2<|z2 (zPf rfl c3 rfl)<|z2 (zPt rfl c2 rfl)<|z6<|zz rfl (fun c9=>?_) (fun c9=>?_)
       ·refine zSr<|z2 (zAb rfl)<|z6<|zg<|zk (x := .bool _) rfl ?_
        rw [if_neg (by simp_all [okRune] <;> omega)] at hstep; exact jb hstep
       ·refine zh<|zRg<|z2 (zMi rfl)<|z2 (zAd rfl rfl)<|z2 (zAi rfl)<|z6 ?_
        exact ⟨(p + (Utf8.decode s p).2, n + 1), zR1, zR1, zLe, ⟨by rw [if_pos (by simp_all [okRune] <;> omega)] at hstep; exact hstep, by dsimp only; omega, by dsimp only; omega⟩, by dsimp only; omega⟩
      ·refine z7 rfl rfl c8<|z7 rfl rfl c8<|z8 rfl rfl c3<|z2 (zPf rfl c8 rfl)<|z8 rfl rfl c2<|z2 (zPf rfl c3 rfl)<|z2 (zPt rfl c2 rfl)<|z6<|ym rfl rfl<|zh<|zRg<|z2 (zMi rfl)<|z2 (zAd rfl rfl)<|z2 (zAi rfl)<|z6 ?_
       exact ⟨(p + (Utf8.decode s p).2, n + 1), zR1, zR1, zLe, ⟨by rw [if_pos (by simp_all [okRune] <;> omega)] at hstep; exact hstep, by dsimp only; omega, by dsimp only; omega⟩, by dsimp only; omega⟩
   ·refine z7 rfl rfl c2<|z7 rfl rfl c2<|z7 rfl rfl c2<|zj rfl rfl<|zj rfl rfl<|zj rfl rfl<|zj rfl rfl<|zj rfl rfl<|zj rfl rfl<|zj rfl rfl<|zj rfl rfl<|zj rfl rfl<|zj rfl rfl<|zj rfl rfl<|zj rfl rfl<|zj rfl rfl<|zj rfl rfl<|zj rfl rfl<|z7 rfl rfl c2<|z2 (zPf rfl c2 rfl)<|z6<|ym rfl rfl<|zh<|zRg<|z2 (zMi rfl)<|z2 (zAd rfl rfl)<|z2 (zAi rfl)<|z6 ?_
    exact ⟨(p + (Utf8.decode s p).2, n + 1), zR1, zR1, zLe, ⟨by rw [if_pos (by simp_all [okRune] <;> omega)] at hstep; exact hstep, by dsimp only; omega, by dsimp only; omega⟩, by dsimp only; omega⟩
  ·refine z7 rfl rfl c1<|z7 rfl rfl c1<|z2 (zPf rfl c1 rfl)<|z2 (zAb rfl)<|z6<|zd<|zSr<|z2 (zMb rfl)<|z2 (yl rfl)<|z2 (zMb rfl)<|z8 rfl rfl rfl<|z2 (zMi rfl)<|z8 rfl rfl rfl<|z2 (y7 rfl rfl)<|z8 rfl rfl rfl<|z2 (zMb rfl)<|zt (s := 23) rfl (fun c10=>?_) (fun c10=>?_)
   ·refine z7 rfl rfl c10<|z7 rfl rfl c10<|z7 rfl rfl c10<|zj rfl rfl<|zj rfl rfl<|z7 rfl rfl c10<|z7 rfl rfl c10<|z7 rfl rfl c10<|zj rfl rfl<|zj rfl rfl<|z7 rfl rfl c10<|z7 rfl rfl c10<|zj rfl rfl<|zj rfl rfl<|z7 rfl rfl c10<|z8 rfl rfl rfl<|z2 (zPt rfl c10 rfl)<|z2 (zPt rfl rfl rfl)<|z6<|yo rfl rfl<|zSr<|z2 (zAb rfl)<|z6<|zg<|zk (x := .bool _) rfl ?_
    rw [if_neg (by simp_all [okRune] <;> omega)] at hstep; exact jb hstep
   ·refine z8 rfl rfl c10<|z2 (zMi rfl)<|z8 rfl rfl c10<|z2 (q6 rfl rfl)<|z8 rfl rfl c10<|z2 (zMb rfl)<|zt (s := 26) rfl (fun c11=>?_) (fun c11=>?_)
    ·refine z8 rfl rfl c11<|z2 (zMi rfl)<|z8 rfl rfl c11<|z2 (Gv.leq rfl rfl)<|z8 rfl rfl c10<|z2 (zPt rfl c11 rfl)<|z8 rfl rfl c10<|z2 (yl rfl)<|z8 rfl rfl c10<|z2 (zMb rfl)<|zt (s := 31) rfl (fun c12=>?_) (fun c12=>?_)
     ·refine z8 rfl rfl c12<|z2 (zMi rfl)<|z8 rfl rfl c12<|z2 (yj rfl rfl)<|z8 rfl rfl c10<|z2 (zPt rfl c12 rfl)<|z8 rfl rfl c10<|z2 (zMb rfl)<|zt (s := 35) rfl (fun c13=>?_) (fun c13=>?_)
      ·refine z8 rfl rfl c13<|z2 (zMi rfl)<|z8 rfl rfl c13<|z2 (yj rfl rfl)<|z8 rfl rfl c10<|z2 (zPt rfl c13 rfl)<|z8 rfl rfl rfl<|z2 (zPf rfl c10 rfl)<|z2 (zPt rfl rfl rfl)<|z6<|zz rfl (fun c14=>?_) (fun c14=>?_)
       ·refine zSr<|z2 (zAb rfl)<|z6<|zg<|zk (x := .bool _) rfl ?_
        rw [if_neg (by simp_all [okRune] <;> omega)] at hstep; exact jb hstep
       ·refine zh<|zRg<|z2 (zMi rfl)<|z2 (zAd rfl rfl)<|z2 (zAi rfl)<|z6 ?_
        exact ⟨(p + (Utf8.decode s p).2, n + 1), zR1, zR1, zLe, ⟨by rw [if_pos (by simp_all [okRune] <;> omega)] at hstep; exact hstep, by dsimp only; omega, by dsimp only; omega⟩, by dsimp only; omega⟩
      ·refine z7 rfl rfl c13<|z7 rfl rfl c13<|z8 rfl rfl c10<|z2 (zPf rfl c13 rfl)<|z8 rfl rfl rfl<|z2 (zPf rfl c10 rfl)<|z2 (zPt rfl rfl rfl)<|z6<|ym rfl rfl<|zh<|zRg<|z2 (zMi rfl)<|z2 (zAd rfl rfl)<|z2 (zAi rfl)<|z6 ?_
       exact ⟨(p + (Utf8.decode s p).2, n + 1), zR1, zR1, zLe, ⟨by rw [if_pos (by simp_all [okRune] <;> omega)] at hstep; exact hstep, by dsimp only; omega, by dsimp only; omega⟩, by dsimp only; omega⟩
     ·refine z7 rfl rfl c12<|z7 rfl rfl c12<|z8 rfl rfl c10<|z2 (zPf rfl c12 rfl)<|z8 rfl rfl c10<|z2 (zMb rfl)<|z7 rfl rfl rfl<|z7 rfl rfl rfl<|z8 rfl rfl c10<|z2 (zPf rfl rfl rfl)<|z8 rfl rfl rfl<|z2 (zPf rfl c10 rfl)<|z2 (zPt rfl rfl rfl)<|z6<|ym rfl rfl<|zh<|zRg<|z2 (zMi rfl)<|z2 (zAd rfl rfl)<|z2 (zAi rfl)<|z6 ?_
      exact ⟨(p + (Utf8.decode s p).2, n + 1), zR1, zR1, zLe, ⟨by rw [if_pos (by simp_all [okRune] <;> omega)] at hstep; exact hstep, by dsimp only; omega, by dsimp only; omega⟩, by dsimp only; omega⟩
    ·refine z7 rfl rfl c11<|z7 rfl rfl c11<|z8 rfl rfl c10<|z2 (zPf rfl c11 rfl)<|z8 rfl rfl c10<|z2 (yl rfl)<|z8 rfl rfl c10<|z2 (zMb rfl)<|z8 rfl rfl rfl<|z2 (zMi rfl)<|z8 rfl rfl rfl<|z2 (yj rfl rfl)<|z8 rfl rfl c10<|z2 (zPt rfl rfl rfl)<|z8 rfl rfl c10<|z2 (zMb rfl)<|zt (s := 35) rfl (fun c15=>?_) (fun c15=>?_)
     ·refine z8 rfl rfl c15<|z2 (zMi rfl)<|z8 rfl rfl c15<|z2 (yj rfl rfl)<|z8 rfl rfl c10<|z2 (zPt rfl c15 rfl)<|z8 rfl rfl rfl<|z2 (zPf rfl c10 rfl)<|z2 (zPt rfl rfl rfl)<|z6<|zz rfl (fun c16=>?_) (fun c16=>?_)
      ·refine zSr<|z2 (zAb rfl)<|z6<|zg<|zk (x := .bool _) rfl ?_
       rw [if_neg (by simp_all [okRune] <;> omega)] at hstep; exact jb hstep
      ·refine zh<|zRg<|z2 (zMi rfl)<|z2 (zAd rfl rfl)<|z2 (zAi rfl)<|z6 ?_
       exact ⟨(p + (Utf8.decode s p).2, n + 1), zR1, zR1, zLe, ⟨by rw [if_pos (by simp_all [okRune] <;> omega)] at hstep; exact hstep, by dsimp only; omega, by dsimp only; omega⟩, by dsimp only; omega⟩
     ·refine z7 rfl rfl c15<|z7 rfl rfl c15<|z8 rfl rfl c10<|z2 (zPf rfl c15 rfl)<|z8 rfl rfl rfl<|z2 (zPf rfl c10 rfl)<|z2 (zPt rfl rfl rfl)<|z6<|ym rfl rfl<|zh<|zRg<|z2 (zMi rfl)<|z2 (zAd rfl rfl)<|z2 (zAi rfl)<|z6 ?_
      exact ⟨(p + (Utf8.decode s p).2, n + 1), zR1, zR1, zLe, ⟨by rw [if_pos (by simp_all [okRune] <;> omega)] at hstep; exact hstep, by dsimp only; omega, by dsimp only; omega⟩, by dsimp only; omega⟩
 ·rw [nameFrom, dif_neg hlt] at hp
  refine zSr<|AOps.nextTover rfl .head hlt<|z2 (zXb rfl rfl)<|z6<|zd<|ym rfl rfl<|y4<|zSr<|z2 (zMi rfl)<|z2 (q6 rfl rfl)<|z2 (zMb rfl)<|zt (s := 45) rfl (fun c17=>?_) (fun c17=>?_)
  ·refine z8 rfl rfl c17<|z2 (zMi rfl)<|z8 rfl rfl c17<|z2 (Gv.leq rfl rfl)<|z2 (zPt rfl c17 rfl)<|z2 (zAb rfl)<|z6<|zg<|zk (x := .bool _) rfl ?_
   rw [← hp]; exact jb (by simp_all <;> (intros; omega))
  ·refine z7 rfl rfl c17<|z7 rfl rfl c17<|z2 (zPf rfl c17 rfl)<|z2 (zAb rfl)<|z6<|zg<|zk (x := .bool _) rfl ?_
   rw [← hp]; exact jb (by simp_all <;> (intros; omega))
theorem rows_spec : AFun prog E 102 [] (.fro 3 (kindT.map encK)) := by
 refine zo func102 rfl (by decide) rfl<|zSr<|z2 (zAr rfl)<|z6<|zSr<|z2 (zx (cps := [(0, [_]), (1, [_]), (2, [_])]) (rs := [_, _, _]) pl170 rfl rfl rfl)<|z2 (zx (cps := [(0, [_]), (1, [_]), (2, [_])]) (rs := [_, _, _]) pl170 rfl rfl rfl)<|z2 (zx (cps := [(0, [_]), (1, [_]), (2, [_])]) (rs := [_, _, _]) pl170 rfl rfl rfl)<|z2 (zx (cps := [(0, [_]), (1, [_]), (2, [_])]) (rs := [_, _, _]) pl170 rfl rfl rfl)<|z2 (zx (cps := [(0, [_]), (1, [_]), (2, [_])]) (rs := [_, _, _]) pl170 rfl rfl rfl)<|z2 (zx (cps := [(0, [_]), (1, [_]), (2, [_])]) (rs := [_, _, _]) pl170 rfl rfl rfl)<|z2 (zx (cps := [(0, [_]), (1, [_]), (2, [_])]) (rs := [_, _, _]) pl170 rfl rfl rfl)<|z2 (zx (cps := [(0, [_]), (1, [_]), (2, [_])]) (rs := [_, _, _]) pl170 rfl rfl rfl)<|z2 (zx (cps := [(0, [_]), (1, [_]), (2, [_])]) (rs := [_, _, _]) pl170 rfl rfl rfl)<|z2 (zx (cps := [(0, [_]), (1, [_]), (2, [_])]) (rs := [_, _, _]) pl170 rfl rfl rfl)<|z2 (zx (cps := [(0, [_]), (1, [_]), (2, [_])]) (rs := [_, _, _]) pl170 rfl rfl rfl)<|z2 (zx (cps := [(0, [_]), (1, [_]), (2, [_])]) (rs := [_, _, _]) pl170 rfl rfl rfl)<|z2 (zx (cps := [(0, [_]), (1, [_]), (2, [_])]) (rs := [_, _, _]) pl170 rfl rfl rfl)<|z2 (zx (cps := [(0, [_]), (1, [_]), (2, [_])]) (rs := [_, _, _]) pl170 rfl rfl rfl)<|z2 (zx (cps := [(0, [_]), (1, [_]), (2, [_])]) (rs := [_, _, _]) pl170 rfl rfl rfl)<|z2 (zx (cps := [(0, [_]), (1, [_]), (2, [_])]) (rs := [_, _, _]) pl170 rfl rfl rfl)<|z2 (zx (cps := [(0, [_]), (1, [_]), (2, [_])]) (rs := [_, _, _]) pl170 rfl rfl rfl)<|z2 (zx (cps := [(0, [_]), (1, [_]), (2, [_])]) (rs := [_, _, _]) pl170 rfl rfl rfl)<|z2 (zx (cps := [(0, [_]), (1, [_]), (2, [_])]) (rs := [_, _, _]) pl170 rfl rfl rfl)<|z2 (zx (cps := [(0, [_]), (1, [_]), (2, [_])]) (rs := [_, _, _]) pl170 rfl rfl rfl)<|z2 (zx (cps := [(0, [_]), (1, [_]), (2, [_])]) (rs := [_, _, _]) pl170 rfl rfl rfl)<|z2 (zx (cps := [(0, [_]), (1, [_]), (2, [_])]) (rs := [_, _, _]) pl170 rfl rfl rfl)<|z2 (zx (cps := [(0, [_]), (1, [_]), (2, [_])]) (rs := [_, _, _]) pl170 rfl rfl rfl)<|z2 (zx (cps := [(0, [_]), (1, [_]), (2, [_])]) (rs := [_, _, _]) pl170 rfl rfl rfl)<|z2 (zx (cps := [(0, [_]), (1, [_]), (2, [_])]) (rs := [_, _, _]) pl170 rfl rfl rfl)<|z2 (zx (cps := [(0, [_]), (1, [_]), (2, [_])]) (rs := [_, _, _]) pl170 rfl rfl rfl)<|z2 (zx (cps := [(0, [_]), (1, [_]), (2, [_])]) (rs := [_, _, _]) pl170 rfl rfl rfl)<|zw (rows := [[_, _, _], [_, _, _], [_, _, _], [_, _, _], [_, _, _], [_, _, _], [_, _, _], [_, _, _], [_, _, _], [_, _, _], [_, _, _], [_, _, _], [_, _, _], [_, _, _], [_, _, _], [_, _, _], [_, _, _], [_, _, _], [_, _, _], [_, _, _], [_, _, _], [_, _, _], [_, _, _], [_, _, _], [_, _, _], [_, _, _], [_, _, _]]) ps171_27 rfl rfl rfl rfl rfl<|z2 (zAf rfl)<|z6<|zg<|zk (x := .fro _ _) rfl ?_
 rfl
theorem in_spec (k n : Int) : AFun prog E 158 [.int .i64 k, .int .i64 n] (.bool (decide (0 ≤ k) && decide (k < n))) := by
 refine zo func158 rfl (by decide) rfl<|zSr<|z2 (zAb rfl)<|z6<|zSr<|z2 (zMi rfl)<|z2 (q6 rfl rfl)<|z2 (zMb rfl)<|zt (s := 7) rfl (fun c18=>?_) (fun c18=>?_)
 ·refine z8 rfl rfl c18<|z2 (zMi rfl)<|z8 rfl rfl c18<|z2 (zMi rfl)<|z8 rfl rfl c18<|z2 (yb rfl rfl)<|z2 (zPt rfl c18 rfl)<|z2 (zAb rfl)<|z6<|zg<|zk (x := .bool _) rfl ?_
  exact jb (by simp_all <;> omega)
 ·refine z7 rfl rfl c18<|z7 rfl rfl c18<|z7 rfl rfl c18<|z2 (zPf rfl c18 rfl)<|z2 (zAb rfl)<|z6<|zg<|zk (x := .bool _) rfl ?_
  exact jb (by simp_all <;> omega)
def strL (l : List UInt8) : ByteArray := ⟨l.toArray⟩
end Go.Proofs.YtiojekbkamegdaaGreatDoor
