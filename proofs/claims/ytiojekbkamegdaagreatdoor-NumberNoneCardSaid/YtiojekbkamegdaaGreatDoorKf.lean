/- The document's own functions: names, the table, digits, what is the same, what has a text. No conditions but bounds. -/
import Derived.Test.YtiojekbkamegdaaGreatDoorKe
import Derived.Lib.ItoaLen
import Derived.Lib.Join
import Derived.Test.YtiojekbkamegdaaGreatDoorKd
set_option linter.unusedVariables false
set_option linter.unusedSimpArgs false
set_option linter.unusedSectionVars false
namespace Go.Proofs.YtiojekbkamegdaaGreatDoor
open Go.Proofs.Tryz
open Go.Proofs
theorem pl54 : PlacesA prog 54 1 [.int .i64 0, .int .i64 0] := ⟨_, _, _, jn, zeroValue54, j5, rfl⟩
set_option maxRecDepth 20000
variable {E : World}
def inst1 (f : PFunc) (x : PInst) : Bool := decide ((kRow x.op).1 = ⟨#[]⟩) || !decide (x.args.length = (takesL x.op).length) || !x.args.all (hasV f)
def inst2 (f : PFunc) (x : PInst) : Bool := (makesB x.op && !hasV f x.dst) || (!makesB x.op && !decide (x.dst = -1))
def instOK (f : PFunc) (x : PInst) : Bool := !inst1 f x && !inst2 f x && (decide (x.num = 0) || isNum x.op)
def termOK (f : PFunc) (t : PTerm) : Bool := if t.kind = 0 then hasB f t.to0 && decide (t.to1 = 0) && decide (t.var = 0) else if t.kind = 1 then hasV f t.var && hasB f t.to0 && hasB f t.to1 else
 if t.kind = 2 then hasV f t.var && decide (t.to0 = 0 ∧ t.to1 = 0) else false
theorem eq_arr10 (a b c d : Int) (w : World) : (Op.equalIn 10000 54 (.agg [.int .i64 a, .int .i64 b].toArray) (.agg [.int .i64 c, .int .i64 d].toArray)).run prog w = .ok (decide (a = c ∧ b = d)) w := eq_arr a b c d w 9998
theorem inst_spec (f : PFunc) (x : PInst) (hx : okL x.args) : AFun prog E 219 [.agg (encF f), .agg (encInst x)] (.bool (instOK f x)) := by
 have hl := hx.lt
 refine zo func219 Z (by decide) Z<|zSr<|y9 (cs := _) Z Z Z<|y9 (cs := _) Z Z Z<|zVzAb Z<|z6<|zSr<|zVzFF j6 Z Z1 Z Z<|zVzLi Za Z<|zk (makes_spec _) Z<|z8 (zMu Z)<|z8 (zXi Z Z)<|z8 (zXb Z Z)<|zVzAi Z<|zVzAb Z<|z6<|za<|zg<|za<|y8 (fun j => false) (by kernel_rfl) Z (zp (.rest _))<|zTk 0 Z (zFF j6 Z Z1 Z Z)<|zTk 1 Z (zLi Za Z)<|zOn 2 Z<|zk (word_spec _) Z<|z6<|zTk 3 Z (Gv.eqlT Z Z)<|zTk 4 Z (zMb Z)<|AAny.case (s := 18) Z (fun c1=>?_) (fun c1=>?_)
 ·refine zTf 5 Z Z Z c1<|zTf 6 Z Z Z c1<|zTf 7 Z Z Z c1<|zTf 8 Z Z Z c1<|zTf 9 Z Z Z c1<|zTf 10 Z Z Z c1<|zTf 11 Z Z Z c1<|zTf 12 Z Z Z c1<|zTk 13 Z (zPt Z c1 Z)<|zTk 14 Z (zMb Z)<|zTf 15 Z Z Z Z<|zTf 16 Z Z Z Z<|zTf 17 Z Z Z Z<|zTf 18 Z Z Z Z<|zTf 19 Z Z Z Z<|zTk 20 Z (zPt Z Z Z)<|zTk 21 Z (zAb Z)<|zDn<|yi Z Z<|zSr<|zVzAb Z<|z6<|zi<|zj (x := .bool _) Z ?_
  exact jb (by simp_all [instOK, inst1, inst2, Int.ofNat_inj] <;> grind)
 ·refine zTt 5 Z Z Z c1 (zFF j6 Z j8 Z Z)<|zTt 6 Z Z Z c1 (zLf jg Z)<|zTt 7 Z Z Z c1 (Gv.lenM j4 Z)<|zTt 8 Z Z Z c1 (zFF j6 Z Z1 Z Z)<|zTt 9 Z Z Z c1 (zLi Za Z)<|zOn 10 Z<|z7 Z Z c1<|zk (takes_spec _) Z<|z6<|zTt 11 Z Z Z c1 (Gv.lenM underlying286 Z)<|zTt 12 Z Z Z c1 (Gv.neqI Z Z)<|zTk 13 Z (zPf Z c1 Z)<|zTk 14 Z (zMb Z)<|AAny.case (s := 28) Z (fun c2=>?_) (fun c2=>?_)
  ·refine zTf 15 Z Z Z c2<|zTf 16 Z Z Z c2<|zTf 17 Z Z Z c2<|zTf 18 Z Z Z c2<|zTf 19 Z Z Z c2<|zTk 20 Z (zPt Z c2 Z)<|zTk 21 Z (zAb Z)<|zDn<|yi Z Z<|zSr<|zVzAb Z<|z6<|zi<|zj (x := .bool _) Z ?_
   exact jb (by simp_all [instOK, inst1, inst2, Int.ofNat_inj] <;> grind)
  ·refine zTt 15 Z Z Z c2 (yk ji je Z Z)<|zTt 16 Z Z Z c2 (zFF j6 Z j8 Z Z)<|zTt 17 Z Z Z c2 (zLf jg Z)<|zOn 18 Z<|z7 Z Z c2<|zk (vars_spec _ _ (by omega)) Z<|z6<|zTt 19 Z Z Z c2 (Gv.not Z)<|zTk 20 Z (zPf Z c2 Z)<|zTk 21 Z (zAb Z)<|zDn<|zr Z (fun c3=>?_) (fun c3=>?_)
   ·refine zSr<|zVzAb Z<|z6<|zi<|zj (x := .bool _) Z ?_
    exact jb (by simp_all [instOK, inst1, inst2, Int.ofNat_inj] <;> grind)
   ·refine zSr<|zVzMb Z<|zVzMb Z<|zn (s := 37) Z (fun c4=>?_) (fun c4=>?_)
    ·refine z7 Z Z c4<|zVGvloadWF ji je Z Z<|z7 Z Z c4<|zVzFF j6 Z j5 Z Z<|z7 Z Z c4<|zVzLi jd Z<|z7 Z Z c4<|zk (has_spec _ _) Z<|z7 Z Z c4<|zVGvnot Z<|zVzPt Z c4 Z<|zVzMb Z<|zn (s := 44) Z (fun c5=>?_) (fun c5=>?_)
     ·refine z2 Z Z c5<|z2 Z Z c5<|z2 Z Z c5<|zh Z Z<|zh Z Z<|zh Z Z<|z2 Z Z c5<|zVzPt Z c5 Z<|zVzAb Z<|z6<|yi Z Z<|zSr<|zVzAb Z<|z6<|zi<|zj (x := .bool _) Z ?_
      exact jb (by simp_all [instOK, inst1, inst2, Int.ofNat_inj] <;> grind)
     ·refine z7 Z Z c5<|zVzMb Z<|z7 Z Z c5<|zVGvnot Z<|z7 Z Z c5<|zVzMb Z<|zn (s := 47) Z (fun c6=>?_) (fun c6=>?_)
      ·refine z7 Z Z c6<|zVzFF j6 Z j5 Z Z<|z7 Z Z c6<|zVzLi jd Z<|z7 Z Z c6<|zVGvneqI Z Z<|z7 Z Z c5<|zVzPt Z c6 Z<|zVzPf Z c5 Z<|zVzAb Z<|z6<|zr Z (fun c7=>?_) (fun c7=>?_)
       ·refine zSr<|zVzAb Z<|z6<|zi<|zj (x := .bool _) Z ?_
        exact jb (by simp_all [instOK, inst1, inst2, Int.ofNat_inj] <;> grind)
       ·refine ze<|zSr<|zVzFF j6 Z Y5 Z Z<|zVzLi Y7 Z<|zVGveqlI Z Z<|zVzMb Z<|zn (s := 56) Z (fun c8=>?_) (fun c8=>?_)
        ·refine z2 Z Z c8<|z2 Z Z c8<|z2 Z Z c8<|zVzPt Z c8 Z<|zVzAb Z<|z6<|zi<|zj (x := .bool _) Z ?_
         exact jb (by simp_all [instOK, inst1, inst2, Int.ofNat_inj] <;> grind)
        ·refine z7 Z Z c8<|zVzFF j6 Z Z1 Z Z<|z7 Z Z c8<|zVzLi Za Z<|z7 Z Z c8<|zk (numbered_spec _) Z<|zVzPf Z c8 Z<|zVzAb Z<|z6<|zi<|zj (x := .bool _) Z ?_
         exact jb (by simp_all [instOK, inst1, inst2, Int.ofNat_inj] <;> grind)
      ·refine z2 Z Z c6<|z2 Z Z c6<|z2 Z Z c6<|z7 Z Z c5<|zVzPf Z c6 Z<|zVzPf Z c5 Z<|zVzAb Z<|z6<|yg Z Z<|ze<|zSr<|zVzFF j6 Z Y5 Z Z<|zVzLi Y7 Z<|zVGveqlI Z Z<|zVzMb Z<|zn (s := 56) Z (fun c9=>?_) (fun c9=>?_)
       ·refine z2 Z Z c9<|z2 Z Z c9<|z2 Z Z c9<|zVzPt Z c9 Z<|zVzAb Z<|z6<|zi<|zj (x := .bool _) Z ?_
        exact jb (by simp_all [instOK, inst1, inst2, Int.ofNat_inj] <;> grind)
       ·refine z7 Z Z c9<|zVzFF j6 Z Z1 Z Z<|z7 Z Z c9<|zVzLi Za Z<|z7 Z Z c9<|zk (numbered_spec _) Z<|zVzPf Z c9 Z<|zVzAb Z<|z6<|zi<|zj (x := .bool _) Z ?_
        exact jb (by simp_all [instOK, inst1, inst2, Int.ofNat_inj] <;> grind)
    ·refine z2 Z Z c4<|z2 Z Z c4<|z2 Z Z c4<|z2 Z Z c4<|z2 Z Z c4<|zVzPf Z c4 Z<|zVzMb Z<|z7 Z Z Z<|zVzMb Z<|z7 Z Z Z<|zVGvnot Z<|z7 Z Z Z<|zVzMb Z<|zn (s := 47) Z (fun c10=>?_) (fun c10=>?_)
     ·refine z7 Z Z c10<|zVzFF j6 Z j5 Z Z<|z7 Z Z c10<|zVzLi jd Z<|z7 Z Z c10<|zVGvneqI Z Z<|z7 Z Z Z<|zVzPt Z c10 Z<|zVzPf Z Z Z<|zVzAb Z<|z6<|zr Z (fun c11=>?_) (fun c11=>?_)
      ·refine zSr<|zVzAb Z<|z6<|zi<|zj (x := .bool _) Z ?_
       exact jb (by simp_all [instOK, inst1, inst2, Int.ofNat_inj] <;> grind)
      ·refine ze<|zSr<|zVzFF j6 Z Y5 Z Z<|zVzLi Y7 Z<|zVGveqlI Z Z<|zVzMb Z<|zn (s := 56) Z (fun c12=>?_) (fun c12=>?_)
       ·refine z2 Z Z c12<|z2 Z Z c12<|z2 Z Z c12<|zVzPt Z c12 Z<|zVzAb Z<|z6<|zi<|zj (x := .bool _) Z ?_
        exact jb (by simp_all [instOK, inst1, inst2, Int.ofNat_inj] <;> grind)
       ·refine z7 Z Z c12<|zVzFF j6 Z Z1 Z Z<|z7 Z Z c12<|zVzLi Za Z<|z7 Z Z c12<|zk (numbered_spec _) Z<|zVzPf Z c12 Z<|zVzAb Z<|z6<|zi<|zj (x := .bool _) Z ?_
        exact jb (by simp_all [instOK, inst1, inst2, Int.ofNat_inj] <;> grind)
     ·refine z2 Z Z c10<|z2 Z Z c10<|z2 Z Z c10<|z7 Z Z Z<|zVzPf Z c10 Z<|zVzPf Z Z Z<|zVzAb Z<|z6<|yg Z Z<|ze<|zSr<|zVzFF j6 Z Y5 Z Z<|zVzLi Y7 Z<|zVGveqlI Z Z<|zVzMb Z<|zn (s := 56) Z (fun c13=>?_) (fun c13=>?_)
      ·refine z2 Z Z c13<|z2 Z Z c13<|z2 Z Z c13<|zVzPt Z c13 Z<|zVzAb Z<|z6<|zi<|zj (x := .bool _) Z ?_
       exact jb (by simp_all [instOK, inst1, inst2, Int.ofNat_inj] <;> grind)
      ·refine z7 Z Z c13<|zVzFF j6 Z Z1 Z Z<|z7 Z Z c13<|zVzLi Za Z<|z7 Z Z c13<|zk (numbered_spec _) Z<|zVzPf Z c13 Z<|zVzAb Z<|z6<|zi<|zj (x := .bool _) Z ?_
       exact jb (by simp_all [instOK, inst1, inst2, Int.ofNat_inj] <;> grind)
theorem term_spec (f : PFunc) (t : PTerm) : AFun prog E 220 [.agg (encF f), .agg (encTerm t)] (.bool (termOK f t)) := by
 refine zo func220 Z (by decide) Z<|zSr<|y9 (cs := _) Z Z Z<|y9 (cs := _) Z Z Z<|zVzAb Z<|z6<|za<|zSr<|zVzFF jc Z Zg Z Z<|zVzLi Zl Z<|z6<|zg<|zSr<|zVGveqlI Z Z<|zVzAb Z<|z6<|zr Z (fun c14=>?_) (fun c14=>?_)
 ·refine zSr<|zVGvloadWF ji je Z Z<|zVzFF jc Z jx Z Z<|z8 (yr (j := 0) jn j5 Z Z Z (by decide) Z)<|zVzLi jd Z<|zk (at_spec _ _) Z<|zVzMb Z<|zn (s := 14) Z (fun c15=>?_) (fun c15=>?_)
  ·refine z7 Z Z c15<|zVzFF jc Z jx Z Z<|z7 Z Z c15<|z8 (yr (j := 1) jn j5 Z Z Z (by decide) Z)<|z7 Z Z c15<|zVzLi jd Z<|z7 Z Z c15<|zVGveqlI Z Z<|zVzPt Z c15 Z<|zVzMb Z<|zn (s := 20) Z (fun c16=>?_) (fun c16=>?_)
   ·refine z7 Z Z c16<|zVzFF jc Z j5 Z Z<|z7 Z Z c16<|zVzLi jd Z<|z7 Z Z c16<|zVGveqlI Z Z<|zVzPt Z c16 Z<|zVzAb Z<|z6<|zi<|zj (x := .bool _) Z ?_
    exact jb (by simp_all [termOK] <;> grind)
   ·refine z2 Z Z c16<|z2 Z Z c16<|z2 Z Z c16<|zVzPf Z c16 Z<|zVzAb Z<|z6<|zi<|zj (x := .bool _) Z ?_
    exact jb (by simp_all [termOK] <;> grind)
  ·refine z2 Z Z c15<|z2 Z Z c15<|z2 Z Z c15<|z2 Z Z c15<|zVzPf Z c15 Z<|zVzMb Z<|z2 Z Z Z<|z2 Z Z Z<|z2 Z Z Z<|zVzPf Z Z Z<|zVzAb Z<|z6<|zi<|zj (x := .bool _) Z ?_
   exact jb (by simp_all [termOK] <;> grind)
 ·refine zSr<|zVGveqlI Z Z<|zVzAb Z<|z6<|zr Z (fun c17=>?_) (fun c17=>?_)
  ·refine zSr<|zVGvloadWF ji je Z Z<|zVzFF jc Z j5 Z Z<|zVzLi jd Z<|zk (has_spec _ _) Z<|zVzMb Z<|zn (s := 31) Z (fun c18=>?_) (fun c18=>?_)
   ·refine z7 Z Z c18<|zVGvloadWF ji je Z Z<|z7 Z Z c18<|zVzFF jc Z jx Z Z<|z7 Z Z c18<|z8 (yr (j := 0) jn j5 Z Z Z (by decide) Z)<|z7 Z Z c18<|zVzLi jd Z<|z7 Z Z c18<|zk (at_spec _ _) Z<|zVzPt Z c18 Z<|zVzMb Z<|zn (s := 38) Z (fun c19=>?_) (fun c19=>?_)
    ·refine z7 Z Z c19<|zVGvloadWF ji je Z Z<|z7 Z Z c19<|zVzFF jc Z jx Z Z<|z7 Z Z c19<|z8 (yr (j := 1) jn j5 Z Z Z (by decide) Z)<|z7 Z Z c19<|zVzLi jd Z<|z7 Z Z c19<|zk (at_spec _ _) Z<|zVzPt Z c19 Z<|zVzAb Z<|z6<|zi<|zj (x := .bool _) Z ?_
     exact jb (by simp_all [termOK] <;> grind)
    ·refine z2 Z Z c19<|z2 Z Z c19<|z2 Z Z c19<|z2 Z Z c19<|z2 Z Z c19<|zVzPf Z c19 Z<|zVzAb Z<|z6<|zi<|zj (x := .bool _) Z ?_
     exact jb (by simp_all [termOK] <;> grind)
   ·refine z2 Z Z c18<|z2 Z Z c18<|z2 Z Z c18<|z2 Z Z c18<|z2 Z Z c18<|zVzPf Z c18 Z<|zVzMb Z<|z2 Z Z Z<|z2 Z Z Z<|z2 Z Z Z<|z2 Z Z Z<|z2 Z Z Z<|zVzPf Z Z Z<|zVzAb Z<|z6<|zi<|zj (x := .bool _) Z ?_
    exact jb (by simp_all [termOK] <;> grind)
  ·refine zSr<|zVGveqlI Z Z<|zVzAb Z<|z6<|zr Z (fun c20=>?_) (fun c20=>?_)
   ·refine zSr<|zVGvloadWF ji je Z Z<|zVzFF jc Z j5 Z Z<|zVzLi jd Z<|zk (has_spec _ _) Z<|zVzMb Z<|zn (s := 51) Z (fun c21=>?_) (fun c21=>?_)
    ·refine z7 Z Z c21<|zVzFF jc Z jx Z Z<|z7 Z Z c21<|zVGvloadWF isAgg54 jx Z Z<|z7 Z Z c21<|z8 (Gv.buildA (cps := []) (rs := [.int .i64 0, .int .i64 0]) pl54 Z Z Z)<|z7 Z Z c21<|z8 (Gv.eqlP (xs := [.int _ _, .int _ _]) (ys := [.int _ _, .int _ _]) (by kernel_rfl) Z Z (fun w => eq_arr10 _ _ _ _ w))<|zVzPt Z c21 Z<|zVzAb Z<|z6<|zi<|zj (x := .bool _) Z ?_
     exact jb (by simp_all [termOK] <;> grind)
    ·refine z2 Z Z c21<|z2 Z Z c21<|z2 Z Z c21<|z2 Z Z c21<|zVzPf Z c21 Z<|zVzAb Z<|z6<|zi<|zj (x := .bool _) Z ?_
     exact jb (by simp_all [termOK] <;> grind)
   ·refine ze<|zSr<|zVzAb Z<|z6<|zi<|zj (x := .bool _) Z ?_
    exact jb (by simp_all [termOK] <;> grind)
def encS (s : ByteArray) : List AV := [.str s]
end Go.Proofs.YtiojekbkamegdaaGreatDoor
namespace Go.Proofs.YtiojekbkamegdaaGreatDoor
open Go.Proofs.Tryz
open Go.Proofs Go.Lib Go.Shelf Go.RowKit
theorem pl170 : Places prog 170 #[(0, 1), (1, 1), (2, 1)] [.str ⟨#[]⟩, .str ⟨#[]⟩, .str ⟨#[]⟩] := ⟨_, _, Zc, Y2, fun w => by kernel_rfl, rfl⟩
theorem ps171_27 : PlacesS prog 171 170 27 3 [.str ⟨#[]⟩, .str ⟨#[]⟩, .str ⟨#[]⟩, .str ⟨#[]⟩, .str ⟨#[]⟩, .str ⟨#[]⟩, .str ⟨#[]⟩, .str ⟨#[]⟩, .str ⟨#[]⟩, .str ⟨#[]⟩, .str ⟨#[]⟩, .str ⟨#[]⟩, .str ⟨#[]⟩, .str ⟨#[]⟩, .str ⟨#[]⟩, .str ⟨#[]⟩, .str ⟨#[]⟩, .str ⟨#[]⟩, .str ⟨#[]⟩, .str ⟨#[]⟩, .str ⟨#[]⟩, .str ⟨#[]⟩, .str ⟨#[]⟩, .str ⟨#[]⟩, .str ⟨#[]⟩, .str ⟨#[]⟩, .str ⟨#[]⟩, .str ⟨#[]⟩, .str ⟨#[]⟩, .str ⟨#[]⟩, .str ⟨#[]⟩, .str ⟨#[]⟩, .str ⟨#[]⟩, .str ⟨#[]⟩, .str ⟨#[]⟩, .str ⟨#[]⟩, .str ⟨#[]⟩, .str ⟨#[]⟩, .str ⟨#[]⟩, .str ⟨#[]⟩, .str ⟨#[]⟩, .str ⟨#[]⟩, .str ⟨#[]⟩, .str ⟨#[]⟩, .str ⟨#[]⟩, .str ⟨#[]⟩, .str ⟨#[]⟩, .str ⟨#[]⟩, .str ⟨#[]⟩, .str ⟨#[]⟩, .str ⟨#[]⟩, .str ⟨#[]⟩, .str ⟨#[]⟩, .str ⟨#[]⟩, .str ⟨#[]⟩, .str ⟨#[]⟩, .str ⟨#[]⟩, .str ⟨#[]⟩, .str ⟨#[]⟩, .str ⟨#[]⟩, .str ⟨#[]⟩, .str ⟨#[]⟩, .str ⟨#[]⟩, .str ⟨#[]⟩, .str ⟨#[]⟩, .str ⟨#[]⟩, .str ⟨#[]⟩, .str ⟨#[]⟩, .str ⟨#[]⟩, .str ⟨#[]⟩, .str ⟨#[]⟩, .str ⟨#[]⟩, .str ⟨#[]⟩, .str ⟨#[]⟩, .str ⟨#[]⟩, .str ⟨#[]⟩, .str ⟨#[]⟩, .str ⟨#[]⟩, .str ⟨#[]⟩, .str ⟨#[]⟩, .str ⟨#[]⟩] := ⟨_, underlying171, Zr, Y2, by decide, by decide, by kernel_rfl⟩
set_option maxRecDepth 20000
variable {E : World}
def Letters (E : World) : Prop := Lib.TabIs prog E "unicode.properties" .u8 Lib.propertiesTab ∧ RVar 1 letterT E
theorem letter_spec (c : Int) (h1 : -2147483648 ≤ c) (h2 : c ≤ 2147483647) (hL : Letters E) : AFun prog E 193 [.int .i32 c] (.bool (isLetterU c)) :=
 AFun.ofBelow (vs := [.int .i32 c]) (r := .bool (isLetterU c)) func193 rfl (by decide) rfl fun w hw => Tryz.unicode_IsLetter_all c w h1 h2 (TabIs_below (g := 0) (by kernel_rfl) hL.1 hw) (RVar_below hL.2 hw)
theorem decode_ok (s : ByteArray) (p : Nat) : 1 ≤ (Utf8.decode s p).2 ∧ (Utf8.decode s p).1 ≤ 2097151 := by
 have h256 : ∀ k, (s.get! k).toNat < 256 := fun k => (s.get! k).toNat_lt
 unfold Utf8.decode
 dsimp only
 constructor
 ·repeat' split
  all_goals simp
 ·have h0 := h256 (p + 0)
  have h1 := h256 (p + 1)
  have h2 := h256 (p + 2)
  have h3 := h256 (p + 3)
  repeat' split
  all_goals (simp only [Utf8.runeError]; omega)
def okRune (c : Int) (n : Nat) : Bool := (isLetterU c && !decide (c = 65533)) || (!decide ((n : Int) = 0) && ((decide (48 ≤ c) && decide (c ≤ 57)) || decide (c = 46) || decide (c = 95)))
def nameFrom (s : ByteArray) (p n : Nat) : Bool :=
 if h : p < s.size then (if okRune (Utf8.decode s p).1 n then nameFrom s (p + (Utf8.decode s p).2) (n + 1) else false) else decide ((1 : Int) ≤ n) && decide ((n : Int) ≤ 16)
termination_by s.size - p
decreasing_by have := (decode_ok s p).1; omega
def nameB (s : ByteArray) : Bool := nameFrom s 0 0
theorem name_spec (s : ByteArray) (hs : s.size ≤ 140737488355328) (hL : Letters E) : AFun prog E 157 [.str s] (.bool (nameB s)) := by
 refine zo func157 Z (by decide) Z<|zSr<|zVzAb Z<|z6<|zSr<|zVzAi Z<|z6<|za<|zSr<|z8 (yf (v := .str _) Z)<|AOps.rangeT Z2 Z<|fun i8 => z6<|zg<|zx (γ := Nat × Nat) [8] (fun g => [(3, .int .i64 g.2)]) (fun g => [(i8, .iter s g.1)]) (fun g => nameFrom s g.1 g.2 = nameB s ∧ g.2 ≤ g.1 ∧ g.2 ≤ s.size) (fun g => s.size - g.1) (0, 0) zR1 zLe (⟨Z, Nat.le_refl _, qg _⟩) ?_
 rintro ⟨p, n⟩ ⟨hp, hn, hn2⟩
 try dsimp only at *
 by_cases hlt : p < s.size
 ·obtain ⟨hd1, hd2⟩ := decode_ok s p
  have hstep := hp
  rw [nameFrom, dif_pos hlt] at hstep
  refine zSr<|AOps.nextT Z .head hlt<|z8 (zXb Z Z)<|z6<|za<|yi Z Z<|ze<|zg<|zSr<|z8 (zXi Z Z)<|zVzAi Z<|z6<|zSr<|zVzMi Z<|zk (letter_spec _ (by omega) (by omega) hL) Z<|zVzMb Z<|zn (s := 14) Z (fun c1=>?_) (fun c1=>?_)
  ·refine z7 Z Z c1<|zVzMi Z<|z7 Z Z c1<|zVGvneqI Z Z<|zVzPt Z c1 Z<|zVzAb Z<|z6<|za<|zSr<|zVzMb Z<|zVGvnot Z<|zVzMb Z<|zn (s := 20) Z (fun c2=>?_) (fun c2=>?_)
   ·refine z7 Z Z c2<|zVzMi Z<|z7 Z Z c2<|zVGveqlI Z Z<|z7 Z Z c2<|zVzMb Z<|zn (s := 23) Z (fun c3=>?_) (fun c3=>?_)
    ·refine z2 Z Z c3<|z2 Z Z c3<|z2 Z Z c3<|zh Z Z<|zh Z Z<|z2 Z Z c3<|z2 Z Z c3<|z2 Z Z c3<|zh Z Z<|zh Z Z<|z2 Z Z c3<|z2 Z Z c3<|zh Z Z<|zh Z Z<|z2 Z Z c3<|z7 Z Z c2<|zVzPt Z c3 Z<|zVzPt Z c2 Z<|z6<|yi Z Z<|zSr<|zVzAb Z<|z6<|zi<|zj (x := .bool _) Z ?_
     rw [if_neg (by simp_all [okRune] <;> omega)] at hstep; exact jb hstep
    ·refine z7 Z Z c3<|zVzMi Z<|z7 Z Z c3<|z8 (qb Z Z)<|z7 Z Z c3<|zVzMb Z<|zn (s := 26) Z (fun c4=>?_) (fun c4=>?_)
     ·refine z7 Z Z c4<|zVzMi Z<|z7 Z Z c4<|z8 (Gv.leq Z Z)<|z7 Z Z c3<|zVzPt Z c4 Z<|z7 Z Z c3<|zVGvnot Z<|z7 Z Z c3<|zVzMb Z<|zn (s := 31) Z (fun c5=>?_) (fun c5=>?_)
      ·refine z7 Z Z c5<|zVzMi Z<|z7 Z Z c5<|zVGvneqI Z Z<|z7 Z Z c3<|zVzPt Z c5 Z<|z7 Z Z c3<|zVzMb Z<|zn (s := 35) Z (fun c6=>?_) (fun c6=>?_)
       ·refine z7 Z Z c6<|zVzMi Z<|z7 Z Z c6<|zVGvneqI Z Z<|z7 Z Z c3<|zVzPt Z c6 Z<|z7 Z Z c2<|zVzPf Z c3 Z<|zVzPt Z c2 Z<|z6<|zr Z (fun c7=>?_) (fun c7=>?_)
        ·refine zSr<|zVzAb Z<|z6<|zi<|zj (x := .bool _) Z ?_
         rw [if_neg (by simp_all [okRune] <;> omega)] at hstep; exact jb hstep
        ·refine ze<|zRg<|zVzMi Z<|zVzAd Z Z<|zVzAi Z<|z6 ?_
         exact ⟨(p + (Utf8.decode s p).2, n + 1), zR1, zR1, zLe, ⟨by rw [if_pos (by simp_all [okRune] <;> omega)] at hstep; exact hstep, by dsimp only; omega, by dsimp only; omega⟩, by dsimp only; omega⟩
       ·refine z2 Z Z c6<|z2 Z Z c6<|z7 Z Z c3<|zVzPf Z c6 Z<|z7 Z Z c2<|zVzPf Z c3 Z<|zVzPt Z c2 Z<|z6<|yg Z Z<|ze<|zRg<|zVzMi Z<|zVzAd Z Z<|zVzAi Z<|z6 ?_
        exact ⟨(p + (Utf8.decode s p).2, n + 1), zR1, zR1, zLe, ⟨by rw [if_pos (by simp_all [okRune] <;> omega)] at hstep; exact hstep, by dsimp only; omega, by dsimp only; omega⟩, by dsimp only; omega⟩
      ·refine z2 Z Z c5<|z2 Z Z c5<|z7 Z Z c3<|zVzPf Z c5 Z<|z7 Z Z c3<|zVzMb Z<|z2 Z Z Z<|z2 Z Z Z<|z7 Z Z c3<|zVzPf Z Z Z<|z7 Z Z c2<|zVzPf Z c3 Z<|zVzPt Z c2 Z<|z6<|yg Z Z<|ze<|zRg<|zVzMi Z<|zVzAd Z Z<|zVzAi Z<|z6 ?_
       exact ⟨(p + (Utf8.decode s p).2, n + 1), zR1, zR1, zLe, ⟨by rw [if_pos (by simp_all [okRune] <;> omega)] at hstep; exact hstep, by dsimp only; omega, by dsimp only; omega⟩, by dsimp only; omega⟩
     ·refine z2 Z Z c4<|z2 Z Z c4<|z7 Z Z c3<|zVzPf Z c4 Z<|z7 Z Z c3<|zVGvnot Z<|z7 Z Z c3<|zVzMb Z<|z7 Z Z Z<|zVzMi Z<|z7 Z Z Z<|zVGvneqI Z Z<|z7 Z Z c3<|zVzPt Z Z Z<|z7 Z Z c3<|zVzMb Z<|zn (s := 35) Z (fun c8=>?_) (fun c8=>?_)
      ·refine z7 Z Z c8<|zVzMi Z<|z7 Z Z c8<|zVGvneqI Z Z<|z7 Z Z c3<|zVzPt Z c8 Z<|z7 Z Z c2<|zVzPf Z c3 Z<|zVzPt Z c2 Z<|z6<|zr Z (fun c9=>?_) (fun c9=>?_)
       ·refine zSr<|zVzAb Z<|z6<|zi<|zj (x := .bool _) Z ?_
        rw [if_neg (by simp_all [okRune] <;> omega)] at hstep; exact jb hstep
       ·refine ze<|zRg<|zVzMi Z<|zVzAd Z Z<|zVzAi Z<|z6 ?_
        exact ⟨(p + (Utf8.decode s p).2, n + 1), zR1, zR1, zLe, ⟨by rw [if_pos (by simp_all [okRune] <;> omega)] at hstep; exact hstep, by dsimp only; omega, by dsimp only; omega⟩, by dsimp only; omega⟩
      ·refine z2 Z Z c8<|z2 Z Z c8<|z7 Z Z c3<|zVzPf Z c8 Z<|z7 Z Z c2<|zVzPf Z c3 Z<|zVzPt Z c2 Z<|z6<|yg Z Z<|ze<|zRg<|zVzMi Z<|zVzAd Z Z<|zVzAi Z<|z6 ?_
       exact ⟨(p + (Utf8.decode s p).2, n + 1), zR1, zR1, zLe, ⟨by rw [if_pos (by simp_all [okRune] <;> omega)] at hstep; exact hstep, by dsimp only; omega, by dsimp only; omega⟩, by dsimp only; omega⟩
   ·refine z2 Z Z c2<|z2 Z Z c2<|z2 Z Z c2<|zh Z Z<|zh Z Z<|zh Z Z<|zh Z Z<|zh Z Z<|zh Z Z<|zh Z Z<|zh Z Z<|zh Z Z<|zh Z Z<|zh Z Z<|zh Z Z<|zh Z Z<|zh Z Z<|zh Z Z<|z2 Z Z c2<|zVzPf Z c2 Z<|z6<|yg Z Z<|ze<|zRg<|zVzMi Z<|zVzAd Z Z<|zVzAi Z<|z6 ?_
    exact ⟨(p + (Utf8.decode s p).2, n + 1), zR1, zR1, zLe, ⟨by rw [if_pos (by simp_all [okRune] <;> omega)] at hstep; exact hstep, by dsimp only; omega, by dsimp only; omega⟩, by dsimp only; omega⟩
  ·refine z2 Z Z c1<|z2 Z Z c1<|zVzPf Z c1 Z<|zVzAb Z<|z6<|za<|zSr<|zVzMb Z<|zVGvnot Z<|zVzMb Z<|z7 Z Z Z<|zVzMi Z<|z7 Z Z Z<|zVGveqlI Z Z<|z7 Z Z Z<|zVzMb Z<|zn (s := 23) Z (fun c10=>?_) (fun c10=>?_)
   ·refine z2 Z Z c10<|z2 Z Z c10<|z2 Z Z c10<|zh Z Z<|zh Z Z<|z2 Z Z c10<|z2 Z Z c10<|z2 Z Z c10<|zh Z Z<|zh Z Z<|z2 Z Z c10<|z2 Z Z c10<|zh Z Z<|zh Z Z<|z2 Z Z c10<|z7 Z Z Z<|zVzPt Z c10 Z<|zVzPt Z Z Z<|z6<|yi Z Z<|zSr<|zVzAb Z<|z6<|zi<|zj (x := .bool _) Z ?_
    rw [if_neg (by simp_all [okRune] <;> omega)] at hstep; exact jb hstep
   ·refine z7 Z Z c10<|zVzMi Z<|z7 Z Z c10<|z8 (qb Z Z)<|z7 Z Z c10<|zVzMb Z<|zn (s := 26) Z (fun c11=>?_) (fun c11=>?_)
    ·refine z7 Z Z c11<|zVzMi Z<|z7 Z Z c11<|z8 (Gv.leq Z Z)<|z7 Z Z c10<|zVzPt Z c11 Z<|z7 Z Z c10<|zVGvnot Z<|z7 Z Z c10<|zVzMb Z<|zn (s := 31) Z (fun c12=>?_) (fun c12=>?_)
     ·refine z7 Z Z c12<|zVzMi Z<|z7 Z Z c12<|zVGvneqI Z Z<|z7 Z Z c10<|zVzPt Z c12 Z<|z7 Z Z c10<|zVzMb Z<|zn (s := 35) Z (fun c13=>?_) (fun c13=>?_)
      ·refine z7 Z Z c13<|zVzMi Z<|z7 Z Z c13<|zVGvneqI Z Z<|z7 Z Z c10<|zVzPt Z c13 Z<|z7 Z Z Z<|zVzPf Z c10 Z<|zVzPt Z Z Z<|z6<|zr Z (fun c14=>?_) (fun c14=>?_)
       ·refine zSr<|zVzAb Z<|z6<|zi<|zj (x := .bool _) Z ?_
        rw [if_neg (by simp_all [okRune] <;> omega)] at hstep; exact jb hstep
       ·refine ze<|zRg<|zVzMi Z<|zVzAd Z Z<|zVzAi Z<|z6 ?_
        exact ⟨(p + (Utf8.decode s p).2, n + 1), zR1, zR1, zLe, ⟨by rw [if_pos (by simp_all [okRune] <;> omega)] at hstep; exact hstep, by dsimp only; omega, by dsimp only; omega⟩, by dsimp only; omega⟩
      ·refine z2 Z Z c13<|z2 Z Z c13<|z7 Z Z c10<|zVzPf Z c13 Z<|z7 Z Z Z<|zVzPf Z c10 Z<|zVzPt Z Z Z<|z6<|yg Z Z<|ze<|zRg<|zVzMi Z<|zVzAd Z Z<|zVzAi Z<|z6 ?_
       exact ⟨(p + (Utf8.decode s p).2, n + 1), zR1, zR1, zLe, ⟨by rw [if_pos (by simp_all [okRune] <;> omega)] at hstep; exact hstep, by dsimp only; omega, by dsimp only; omega⟩, by dsimp only; omega⟩
     ·refine z2 Z Z c12<|z2 Z Z c12<|z7 Z Z c10<|zVzPf Z c12 Z<|z7 Z Z c10<|zVzMb Z<|z2 Z Z Z<|z2 Z Z Z<|z7 Z Z c10<|zVzPf Z Z Z<|z7 Z Z Z<|zVzPf Z c10 Z<|zVzPt Z Z Z<|z6<|yg Z Z<|ze<|zRg<|zVzMi Z<|zVzAd Z Z<|zVzAi Z<|z6 ?_
      exact ⟨(p + (Utf8.decode s p).2, n + 1), zR1, zR1, zLe, ⟨by rw [if_pos (by simp_all [okRune] <;> omega)] at hstep; exact hstep, by dsimp only; omega, by dsimp only; omega⟩, by dsimp only; omega⟩
    ·refine z2 Z Z c11<|z2 Z Z c11<|z7 Z Z c10<|zVzPf Z c11 Z<|z7 Z Z c10<|zVGvnot Z<|z7 Z Z c10<|zVzMb Z<|z7 Z Z Z<|zVzMi Z<|z7 Z Z Z<|zVGvneqI Z Z<|z7 Z Z c10<|zVzPt Z Z Z<|z7 Z Z c10<|zVzMb Z<|zn (s := 35) Z (fun c15=>?_) (fun c15=>?_)
     ·refine z7 Z Z c15<|zVzMi Z<|z7 Z Z c15<|zVGvneqI Z Z<|z7 Z Z c10<|zVzPt Z c15 Z<|z7 Z Z Z<|zVzPf Z c10 Z<|zVzPt Z Z Z<|z6<|zr Z (fun c16=>?_) (fun c16=>?_)
      ·refine zSr<|zVzAb Z<|z6<|zi<|zj (x := .bool _) Z ?_
       rw [if_neg (by simp_all [okRune] <;> omega)] at hstep; exact jb hstep
      ·refine ze<|zRg<|zVzMi Z<|zVzAd Z Z<|zVzAi Z<|z6 ?_
       exact ⟨(p + (Utf8.decode s p).2, n + 1), zR1, zR1, zLe, ⟨by rw [if_pos (by simp_all [okRune] <;> omega)] at hstep; exact hstep, by dsimp only; omega, by dsimp only; omega⟩, by dsimp only; omega⟩
     ·refine z2 Z Z c15<|z2 Z Z c15<|z7 Z Z c10<|zVzPf Z c15 Z<|z7 Z Z Z<|zVzPf Z c10 Z<|zVzPt Z Z Z<|z6<|yg Z Z<|ze<|zRg<|zVzMi Z<|zVzAd Z Z<|zVzAi Z<|z6 ?_
      exact ⟨(p + (Utf8.decode s p).2, n + 1), zR1, zR1, zLe, ⟨by rw [if_pos (by simp_all [okRune] <;> omega)] at hstep; exact hstep, by dsimp only; omega, by dsimp only; omega⟩, by dsimp only; omega⟩
 ·rw [nameFrom, dif_neg hlt] at hp
  refine zSr<|AOps.nextTover Z .head hlt<|z8 (zXb Z Z)<|z6<|za<|yg Z Z<|zw<|zSr<|zVzMi Z<|z8 (qb Z Z)<|zVzMb Z<|zn (s := 45) Z (fun c17=>?_) (fun c17=>?_)
  ·refine z7 Z Z c17<|zVzMi Z<|z7 Z Z c17<|z8 (Gv.leq Z Z)<|zVzPt Z c17 Z<|zVzAb Z<|z6<|zi<|zj (x := .bool _) Z ?_
   rw [← hp]; exact jb (by simp_all <;> (intros; omega))
  ·refine z2 Z Z c17<|z2 Z Z c17<|zVzPf Z c17 Z<|zVzAb Z<|z6<|zi<|zj (x := .bool _) Z ?_
   rw [← hp]; exact jb (by simp_all <;> (intros; omega))
theorem rows_spec : AFun prog E 102 [] (.fro 3 (kindT.map encK)) := by
 refine zo func102 Z (by decide) Z<|zSr<|z8 (zAr Z)<|z6<|zSr<|z8 (y7 (cps := [(0, [_]), (1, [_]), (2, [_])]) (rs := [_, _, _]) pl170 Z Z Z)<|z8 (y7 (cps := [(0, [_]), (1, [_]), (2, [_])]) (rs := [_, _, _]) pl170 Z Z Z)<|z8 (y7 (cps := [(0, [_]), (1, [_]), (2, [_])]) (rs := [_, _, _]) pl170 Z Z Z)<|z8 (y7 (cps := [(0, [_]), (1, [_]), (2, [_])]) (rs := [_, _, _]) pl170 Z Z Z)<|z8 (y7 (cps := [(0, [_]), (1, [_]), (2, [_])]) (rs := [_, _, _]) pl170 Z Z Z)<|z8 (y7 (cps := [(0, [_]), (1, [_]), (2, [_])]) (rs := [_, _, _]) pl170 Z Z Z)<|z8 (y7 (cps := [(0, [_]), (1, [_]), (2, [_])]) (rs := [_, _, _]) pl170 Z Z Z)<|z8 (y7 (cps := [(0, [_]), (1, [_]), (2, [_])]) (rs := [_, _, _]) pl170 Z Z Z)<|z8 (y7 (cps := [(0, [_]), (1, [_]), (2, [_])]) (rs := [_, _, _]) pl170 Z Z Z)<|z8 (y7 (cps := [(0, [_]), (1, [_]), (2, [_])]) (rs := [_, _, _]) pl170 Z Z Z)<|z8 (y7 (cps := [(0, [_]), (1, [_]), (2, [_])]) (rs := [_, _, _]) pl170 Z Z Z)<|z8 (y7 (cps := [(0, [_]), (1, [_]), (2, [_])]) (rs := [_, _, _]) pl170 Z Z Z)<|z8 (y7 (cps := [(0, [_]), (1, [_]), (2, [_])]) (rs := [_, _, _]) pl170 Z Z Z)<|z8 (y7 (cps := [(0, [_]), (1, [_]), (2, [_])]) (rs := [_, _, _]) pl170 Z Z Z)<|z8 (y7 (cps := [(0, [_]), (1, [_]), (2, [_])]) (rs := [_, _, _]) pl170 Z Z Z)<|z8 (y7 (cps := [(0, [_]), (1, [_]), (2, [_])]) (rs := [_, _, _]) pl170 Z Z Z)<|z8 (y7 (cps := [(0, [_]), (1, [_]), (2, [_])]) (rs := [_, _, _]) pl170 Z Z Z)<|z8 (y7 (cps := [(0, [_]), (1, [_]), (2, [_])]) (rs := [_, _, _]) pl170 Z Z Z)<|z8 (y7 (cps := [(0, [_]), (1, [_]), (2, [_])]) (rs := [_, _, _]) pl170 Z Z Z)<|z8 (y7 (cps := [(0, [_]), (1, [_]), (2, [_])]) (rs := [_, _, _]) pl170 Z Z Z)<|z8 (y7 (cps := [(0, [_]), (1, [_]), (2, [_])]) (rs := [_, _, _]) pl170 Z Z Z)<|z8 (y7 (cps := [(0, [_]), (1, [_]), (2, [_])]) (rs := [_, _, _]) pl170 Z Z Z)<|z8 (y7 (cps := [(0, [_]), (1, [_]), (2, [_])]) (rs := [_, _, _]) pl170 Z Z Z)<|z8 (y7 (cps := [(0, [_]), (1, [_]), (2, [_])]) (rs := [_, _, _]) pl170 Z Z Z)<|z8 (y7 (cps := [(0, [_]), (1, [_]), (2, [_])]) (rs := [_, _, _]) pl170 Z Z Z)<|z8 (y7 (cps := [(0, [_]), (1, [_]), (2, [_])]) (rs := [_, _, _]) pl170 Z Z Z)<|z8 (y7 (cps := [(0, [_]), (1, [_]), (2, [_])]) (rs := [_, _, _]) pl170 Z Z Z)<|zt (rows := [[_, _, _], [_, _, _], [_, _, _], [_, _, _], [_, _, _], [_, _, _], [_, _, _], [_, _, _], [_, _, _], [_, _, _], [_, _, _], [_, _, _], [_, _, _], [_, _, _], [_, _, _], [_, _, _], [_, _, _], [_, _, _], [_, _, _], [_, _, _], [_, _, _], [_, _, _], [_, _, _], [_, _, _], [_, _, _], [_, _, _], [_, _, _]]) ps171_27 Z Z Z Z Z<|z8 (zAf Z)<|z6<|zi<|zj (x := .fro _ _) Z ?_
 rfl
theorem in_spec (k n : Int) : AFun prog E 158 [.int .i64 k, .int .i64 n] (.bool (decide (0 ≤ k) && decide (k < n))) := by
 refine zo func158 Z (by decide) Z<|zSr<|zVzAb Z<|z6<|zSr<|zVzMi Z<|z8 (qb Z Z)<|zVzMb Z<|zn (s := 7) Z (fun c18=>?_) (fun c18=>?_)
 ·refine z7 Z Z c18<|zVzMi Z<|z7 Z Z c18<|zVzMi Z<|z7 Z Z c18<|zVGvlss Z Z<|zVzPt Z c18 Z<|zVzAb Z<|z6<|zi<|zj (x := .bool _) Z ?_
  exact jb (by simp_all <;> omega)
 ·refine z2 Z Z c18<|z2 Z Z c18<|z2 Z Z c18<|zVzPf Z c18 Z<|zVzAb Z<|z6<|zi<|zj (x := .bool _) Z ?_
  exact jb (by simp_all <;> omega)
def strL (l : List UInt8) : ByteArray := ⟨l.toArray⟩
end Go.Proofs.YtiojekbkamegdaaGreatDoor
