/- The document's own functions: names, the table, digits, what is the same, what has a text. No conditions but bounds. -/
import Derived.Test.YtjnpcfpecilejaaGreatDoorZc
import Derived.Test.YtjnpcfpecilejaaGreatDoorZe
import Derived.Lib.ItoaLen
import Derived.Lib.Join
set_option linter.unusedVariables false
set_option linter.unusedSimpArgs false
set_option linter.unusedSectionVars false
namespace Go.Proofs.YtjnpcfpecilejaaGreatDoor
open Go.Proofs.Tryz
open Go.Proofs
theorem pl62 : PlacesA Tryz.prog 62 1 [.int .i64 0, .int .i64 0] := ⟨_, _, _, underlying62, zeroValue62, sizeOf3, rfl⟩
set_option maxRecDepth 20000
variable {E : World}
def inst1 (f : PFunc) (x : PInst) : Bool := decide ((kRow x.op).1 = ⟨#[]⟩) || !decide (x.args.length = (takesL x.op).length) || !x.args.all (hasV f)
def inst2 (f : PFunc) (x : PInst) : Bool := (makesB x.op && !hasV f x.dst) || (!makesB x.op && !decide (x.dst = -1))
def instOK (f : PFunc) (x : PInst) : Bool := !inst1 f x && !inst2 f x && (decide (x.num = 0) || isNum x.op)
def termOK (f : PFunc) (t : PTerm) : Bool := if t.kind = 0 then hasB f t.to0 && decide (t.to1 = 0) && decide (t.var = 0) else if t.kind = 1 then hasV f t.var && hasB f t.to0 && hasB f t.to1 else
 if t.kind = 2 then hasV f t.var && decide (t.to0 = 0 ∧ t.to1 = 0) else false
theorem eq_arr10 (a b c d : Int) (w : World) : (Op.equalIn 10000 62 (.agg [.int .i64 a, .int .i64 b].toArray) (.agg [.int .i64 c, .int .i64 d].toArray)).run Tryz.prog w = .ok (decide (a = c ∧ b = d)) w := eq_arr a b c d w 9998
theorem inst_spec (f : PFunc) (x : PInst) (hx : okL x.args) : AFun Tryz.prog E 165 [.agg (encF f), .agg (encInst x)] (.bool (instOK f x)) := by
 have hl := hx.lt
 refine zp func165 rfl (by decide) rfl<|zb<|z7 rfl<|yd (cs := _) rfl rfl rfl<|yd (cs := _) rfl rfl rfl<|z2 (zAb rfl)<|z6<|zb<|z7 rfl<|z2 (zc underlying33 rfl sizeOf31 (by decide) rfl rfl)<|z2 (zLi isAgg31 rfl)<|zi (makes_spec _) rfl<|z2 (zq (v := .tup _) rfl)<|z2 (yh (v := .int _ _) rfl rfl)<|z2 (yh (v := .bool _) rfl rfl)<|z2 (zAi rfl)<|z2 (zAb rfl)<|z6<|zb<|zh<|zb<|yc (fun j => false) (by kernel_rfl) rfl (zo (.rest _))<|zTk (i := 0) rfl (zc underlying33 rfl sizeOf31 (by decide) rfl rfl)<|zTk (i := 1) rfl (zLi isAgg31 rfl)<|zOn (i := 2) rfl<|zi (word_spec _) rfl<|z6<|zTk (i := 3) rfl (Gv.eqlT rfl rfl)<|zTk (i := 4) rfl (zMb rfl)<|qc (s := 18) rfl (fun c1 => ?_) (fun c1 => ?_)
 ·refine zTf (i := 5) rfl rfl rfl c1<|zTf (i := 6) rfl rfl rfl c1<|zTf (i := 7) rfl rfl rfl c1<|zTf (i := 8) rfl rfl rfl c1<|zTf (i := 9) rfl rfl rfl c1<|zTf (i := 10) rfl rfl rfl c1<|zTf (i := 11) rfl rfl rfl c1<|zTf (i := 12) rfl rfl rfl c1<|zTk (i := 13) rfl (zPt rfl c1 rfl)<|zTk (i := 14) rfl (zMb rfl)<|zTf (i := 15) rfl rfl rfl rfl<|zTf (i := 16) rfl rfl rfl rfl<|zTf (i := 17) rfl rfl rfl rfl<|zTf (i := 18) rfl rfl rfl rfl<|zTf (i := 19) rfl rfl rfl rfl<|zTk (i := 20) rfl (zPt rfl rfl rfl)<|zTk (i := 21) rfl (zAb rfl)<|zDn<|yo rfl rfl<|zb<|z7 rfl<|z2 (zAb rfl)<|z6<|zj<|zl (x := .bool _) rfl ?_
  exact jb (by simp_all [instOK, inst1, inst2, Int.ofNat_inj] <;> grind)
 ·refine zTt (i := 5) rfl rfl rfl c1 (zc underlying33 rfl sizeOf23 (by decide) rfl rfl)<|zTt (i := 6) rfl rfl rfl c1 (zLf isAgg23 rfl)<|zTt (i := 7) rfl rfl rfl c1 (y1 underlying23 rfl)<|zTt (i := 8) rfl rfl rfl c1 (zc underlying33 rfl sizeOf31 (by decide) rfl rfl)<|zTt (i := 9) rfl rfl rfl c1 (zLi isAgg31 rfl)<|zOn (i := 10) rfl<|za rfl rfl c1<|zi (takes_spec _) rfl<|z6<|zTt (i := 11) rfl rfl rfl c1 (y1 underlying217 rfl)<|zTt (i := 12) rfl rfl rfl c1 (yl rfl rfl)<|zTk (i := 13) rfl (zPf rfl c1 rfl)<|zTk (i := 14) rfl (zMb rfl)<|qc (s := 28) rfl (fun c2 => ?_) (fun c2 => ?_)
  ·refine zTf (i := 15) rfl rfl rfl c2<|zTf (i := 16) rfl rfl rfl c2<|zTf (i := 17) rfl rfl rfl c2<|zTf (i := 18) rfl rfl rfl c2<|zTf (i := 19) rfl rfl rfl c2<|zTk (i := 20) rfl (zPt rfl c2 rfl)<|zTk (i := 21) rfl (zAb rfl)<|zDn<|yo rfl rfl<|zb<|z7 rfl<|z2 (zAb rfl)<|z6<|zj<|zl (x := .bool _) rfl ?_
   exact jb (by simp_all [instOK, inst1, inst2, Int.ofNat_inj] <;> grind)
  ·refine zTt (i := 15) rfl rfl rfl c2 (zm isAgg26 sizeOf26 rfl rfl)<|zTt (i := 16) rfl rfl rfl c2 (zc underlying33 rfl sizeOf23 (by decide) rfl rfl)<|zTt (i := 17) rfl rfl rfl c2 (zLf isAgg23 rfl)<|zOn (i := 18) rfl<|za rfl rfl c2<|zi (vars_spec _ _ (by omega)) rfl<|z6<|zTt (i := 19) rfl rfl rfl c2 (yj rfl)<|zTk (i := 20) rfl (zPf rfl c2 rfl)<|zTk (i := 21) rfl (zAb rfl)<|zDn<|zu rfl (fun c3 => ?_) (fun c3 => ?_)
   ·refine zb<|z7 rfl<|z2 (zAb rfl)<|z6<|zj<|zl (x := .bool _) rfl ?_
    exact jb (by simp_all [instOK, inst1, inst2, Int.ofNat_inj] <;> grind)
   ·refine zb<|z7 rfl<|z2 (zMb rfl)<|z2 (zMb rfl)<|zn (s := 37) rfl (fun c4 => ?_) (fun c4 => ?_)
    ·refine za rfl rfl c4<|z2 (zm isAgg26 sizeOf26 rfl rfl)<|za rfl rfl c4<|z2 (zc underlying33 rfl sizeOf3 (by decide) rfl rfl)<|za rfl rfl c4<|z2 (zLi isAgg3 rfl)<|za rfl rfl c4<|zi (has_spec _ _) rfl<|za rfl rfl c4<|z2 (yj rfl)<|z2 (zPt rfl c4 rfl)<|z2 (zMb rfl)<|zn (s := 44) rfl (fun c5 => ?_) (fun c5 => ?_)
     ·refine z8 rfl rfl c5<|z8 rfl rfl c5<|z8 rfl rfl c5<|zd rfl rfl<|zd rfl rfl<|zd rfl rfl<|z8 rfl rfl c5<|z2 (zPt rfl c5 rfl)<|z2 (zAb rfl)<|z6<|yo rfl rfl<|zb<|z7 rfl<|z2 (zAb rfl)<|z6<|zj<|zl (x := .bool _) rfl ?_
      exact jb (by simp_all [instOK, inst1, inst2, Int.ofNat_inj] <;> grind)
     ·refine za rfl rfl c5<|z2 (zMb rfl)<|za rfl rfl c5<|z2 (yj rfl)<|za rfl rfl c5<|z2 (zMb rfl)<|zn (s := 47) rfl (fun c6 => ?_) (fun c6 => ?_)
      ·refine za rfl rfl c6<|z2 (zc underlying33 rfl sizeOf3 (by decide) rfl rfl)<|za rfl rfl c6<|z2 (zLi isAgg3 rfl)<|za rfl rfl c6<|z2 (yl rfl rfl)<|za rfl rfl c5<|z2 (zPt rfl c6 rfl)<|z2 (zPf rfl c5 rfl)<|z2 (zAb rfl)<|z6<|zu rfl (fun c7 => ?_) (fun c7 => ?_)
       ·refine zb<|z7 rfl<|z2 (zAb rfl)<|z6<|zj<|zl (x := .bool _) rfl ?_
        exact jb (by simp_all [instOK, inst1, inst2, Int.ofNat_inj] <;> grind)
       ·refine ze<|zb<|z7 rfl<|z2 (zc underlying33 rfl sizeOf2 (by decide) rfl rfl)<|z2 (zLi isAgg2 rfl)<|z2 (y3 rfl rfl)<|z2 (zMb rfl)<|zn (s := 56) rfl (fun c8 => ?_) (fun c8 => ?_)
        ·refine z8 rfl rfl c8<|z8 rfl rfl c8<|z8 rfl rfl c8<|z2 (zPt rfl c8 rfl)<|z2 (zAb rfl)<|z6<|zj<|zl (x := .bool _) rfl ?_
         exact jb (by simp_all [instOK, inst1, inst2, Int.ofNat_inj] <;> grind)
        ·refine za rfl rfl c8<|z2 (zc underlying33 rfl sizeOf31 (by decide) rfl rfl)<|za rfl rfl c8<|z2 (zLi isAgg31 rfl)<|za rfl rfl c8<|zi (numbered_spec _) rfl<|z2 (zPf rfl c8 rfl)<|z2 (zAb rfl)<|z6<|zj<|zl (x := .bool _) rfl ?_
         exact jb (by simp_all [instOK, inst1, inst2, Int.ofNat_inj] <;> grind)
      ·refine z8 rfl rfl c6<|z8 rfl rfl c6<|z8 rfl rfl c6<|za rfl rfl c5<|z2 (zPf rfl c6 rfl)<|z2 (zPf rfl c5 rfl)<|z2 (zAb rfl)<|z6<|yg rfl rfl<|ze<|zb<|z7 rfl<|z2 (zc underlying33 rfl sizeOf2 (by decide) rfl rfl)<|z2 (zLi isAgg2 rfl)<|z2 (y3 rfl rfl)<|z2 (zMb rfl)<|zn (s := 56) rfl (fun c9 => ?_) (fun c9 => ?_)
       ·refine z8 rfl rfl c9<|z8 rfl rfl c9<|z8 rfl rfl c9<|z2 (zPt rfl c9 rfl)<|z2 (zAb rfl)<|z6<|zj<|zl (x := .bool _) rfl ?_
        exact jb (by simp_all [instOK, inst1, inst2, Int.ofNat_inj] <;> grind)
       ·refine za rfl rfl c9<|z2 (zc underlying33 rfl sizeOf31 (by decide) rfl rfl)<|za rfl rfl c9<|z2 (zLi isAgg31 rfl)<|za rfl rfl c9<|zi (numbered_spec _) rfl<|z2 (zPf rfl c9 rfl)<|z2 (zAb rfl)<|z6<|zj<|zl (x := .bool _) rfl ?_
        exact jb (by simp_all [instOK, inst1, inst2, Int.ofNat_inj] <;> grind)
    ·refine z8 rfl rfl c4<|z8 rfl rfl c4<|z8 rfl rfl c4<|z8 rfl rfl c4<|z8 rfl rfl c4<|z2 (zPf rfl c4 rfl)<|z2 (zMb rfl)<|za rfl rfl rfl<|z2 (zMb rfl)<|za rfl rfl rfl<|z2 (yj rfl)<|za rfl rfl rfl<|z2 (zMb rfl)<|zn (s := 47) rfl (fun c10 => ?_) (fun c10 => ?_)
     ·refine za rfl rfl c10<|z2 (zc underlying33 rfl sizeOf3 (by decide) rfl rfl)<|za rfl rfl c10<|z2 (zLi isAgg3 rfl)<|za rfl rfl c10<|z2 (yl rfl rfl)<|za rfl rfl rfl<|z2 (zPt rfl c10 rfl)<|z2 (zPf rfl rfl rfl)<|z2 (zAb rfl)<|z6<|zu rfl (fun c11 => ?_) (fun c11 => ?_)
      ·refine zb<|z7 rfl<|z2 (zAb rfl)<|z6<|zj<|zl (x := .bool _) rfl ?_
       exact jb (by simp_all [instOK, inst1, inst2, Int.ofNat_inj] <;> grind)
      ·refine ze<|zb<|z7 rfl<|z2 (zc underlying33 rfl sizeOf2 (by decide) rfl rfl)<|z2 (zLi isAgg2 rfl)<|z2 (y3 rfl rfl)<|z2 (zMb rfl)<|zn (s := 56) rfl (fun c12 => ?_) (fun c12 => ?_)
       ·refine z8 rfl rfl c12<|z8 rfl rfl c12<|z8 rfl rfl c12<|z2 (zPt rfl c12 rfl)<|z2 (zAb rfl)<|z6<|zj<|zl (x := .bool _) rfl ?_
        exact jb (by simp_all [instOK, inst1, inst2, Int.ofNat_inj] <;> grind)
       ·refine za rfl rfl c12<|z2 (zc underlying33 rfl sizeOf31 (by decide) rfl rfl)<|za rfl rfl c12<|z2 (zLi isAgg31 rfl)<|za rfl rfl c12<|zi (numbered_spec _) rfl<|z2 (zPf rfl c12 rfl)<|z2 (zAb rfl)<|z6<|zj<|zl (x := .bool _) rfl ?_
        exact jb (by simp_all [instOK, inst1, inst2, Int.ofNat_inj] <;> grind)
     ·refine z8 rfl rfl c10<|z8 rfl rfl c10<|z8 rfl rfl c10<|za rfl rfl rfl<|z2 (zPf rfl c10 rfl)<|z2 (zPf rfl rfl rfl)<|z2 (zAb rfl)<|z6<|yg rfl rfl<|ze<|zb<|z7 rfl<|z2 (zc underlying33 rfl sizeOf2 (by decide) rfl rfl)<|z2 (zLi isAgg2 rfl)<|z2 (y3 rfl rfl)<|z2 (zMb rfl)<|zn (s := 56) rfl (fun c13 => ?_) (fun c13 => ?_)
      ·refine z8 rfl rfl c13<|z8 rfl rfl c13<|z8 rfl rfl c13<|z2 (zPt rfl c13 rfl)<|z2 (zAb rfl)<|z6<|zj<|zl (x := .bool _) rfl ?_
       exact jb (by simp_all [instOK, inst1, inst2, Int.ofNat_inj] <;> grind)
      ·refine za rfl rfl c13<|z2 (zc underlying33 rfl sizeOf31 (by decide) rfl rfl)<|za rfl rfl c13<|z2 (zLi isAgg31 rfl)<|za rfl rfl c13<|zi (numbered_spec _) rfl<|z2 (zPf rfl c13 rfl)<|z2 (zAb rfl)<|z6<|zj<|zl (x := .bool _) rfl ?_
       exact jb (by simp_all [instOK, inst1, inst2, Int.ofNat_inj] <;> grind)
theorem term_spec (f : PFunc) (t : PTerm) : AFun Tryz.prog E 166 [.agg (encF f), .agg (encTerm t)] (.bool (termOK f t)) := by
 refine zp func166 rfl (by decide) rfl<|zb<|z7 rfl<|yd (cs := _) rfl rfl rfl<|yd (cs := _) rfl rfl rfl<|z2 (zAb rfl)<|z6<|zb<|zb<|z7 rfl<|z2 (zc underlying64 rfl sizeOf61 (by decide) rfl rfl)<|z2 (zLi isAgg61 rfl)<|z6<|zh<|zb<|z7 rfl<|z2 (y3 rfl rfl)<|z2 (zAb rfl)<|z6<|zu rfl (fun c14 => ?_) (fun c14 => ?_)
 ·refine zb<|z7 rfl<|z2 (zm isAgg26 sizeOf26 rfl rfl)<|z2 (zc underlying64 rfl sizeOf62 (by decide) rfl rfl)<|z2 (yv (j := 0) underlying62 sizeOf3 rfl rfl rfl (by decide) rfl)<|z2 (zLi isAgg3 rfl)<|zi (at_spec _ _) rfl<|z2 (zMb rfl)<|zn (s := 14) rfl (fun c15 => ?_) (fun c15 => ?_)
  ·refine za rfl rfl c15<|z2 (zc underlying64 rfl sizeOf62 (by decide) rfl rfl)<|za rfl rfl c15<|z2 (yv (j := 1) underlying62 sizeOf3 rfl rfl rfl (by decide) rfl)<|za rfl rfl c15<|z2 (zLi isAgg3 rfl)<|za rfl rfl c15<|z2 (y3 rfl rfl)<|z2 (zPt rfl c15 rfl)<|z2 (zMb rfl)<|zn (s := 20) rfl (fun c16 => ?_) (fun c16 => ?_)
   ·refine za rfl rfl c16<|z2 (zc underlying64 rfl sizeOf3 (by decide) rfl rfl)<|za rfl rfl c16<|z2 (zLi isAgg3 rfl)<|za rfl rfl c16<|z2 (y3 rfl rfl)<|z2 (zPt rfl c16 rfl)<|z2 (zAb rfl)<|z6<|zj<|zl (x := .bool _) rfl ?_
    exact jb (by simp_all [termOK] <;> grind)
   ·refine z8 rfl rfl c16<|z8 rfl rfl c16<|z8 rfl rfl c16<|z2 (zPf rfl c16 rfl)<|z2 (zAb rfl)<|z6<|zj<|zl (x := .bool _) rfl ?_
    exact jb (by simp_all [termOK] <;> grind)
  ·refine z8 rfl rfl c15<|z8 rfl rfl c15<|z8 rfl rfl c15<|z8 rfl rfl c15<|z2 (zPf rfl c15 rfl)<|z2 (zMb rfl)<|z8 rfl rfl rfl<|z8 rfl rfl rfl<|z8 rfl rfl rfl<|z2 (zPf rfl rfl rfl)<|z2 (zAb rfl)<|z6<|zj<|zl (x := .bool _) rfl ?_
   exact jb (by simp_all [termOK] <;> grind)
 ·refine zb<|z7 rfl<|z2 (y3 rfl rfl)<|z2 (zAb rfl)<|z6<|zu rfl (fun c17 => ?_) (fun c17 => ?_)
  ·refine zb<|z7 rfl<|z2 (zm isAgg26 sizeOf26 rfl rfl)<|z2 (zc underlying64 rfl sizeOf3 (by decide) rfl rfl)<|z2 (zLi isAgg3 rfl)<|zi (has_spec _ _) rfl<|z2 (zMb rfl)<|zn (s := 31) rfl (fun c18 => ?_) (fun c18 => ?_)
   ·refine za rfl rfl c18<|z2 (zm isAgg26 sizeOf26 rfl rfl)<|za rfl rfl c18<|z2 (zc underlying64 rfl sizeOf62 (by decide) rfl rfl)<|za rfl rfl c18<|z2 (yv (j := 0) underlying62 sizeOf3 rfl rfl rfl (by decide) rfl)<|za rfl rfl c18<|z2 (zLi isAgg3 rfl)<|za rfl rfl c18<|zi (at_spec _ _) rfl<|z2 (zPt rfl c18 rfl)<|z2 (zMb rfl)<|zn (s := 38) rfl (fun c19 => ?_) (fun c19 => ?_)
    ·refine za rfl rfl c19<|z2 (zm isAgg26 sizeOf26 rfl rfl)<|za rfl rfl c19<|z2 (zc underlying64 rfl sizeOf62 (by decide) rfl rfl)<|za rfl rfl c19<|z2 (yv (j := 1) underlying62 sizeOf3 rfl rfl rfl (by decide) rfl)<|za rfl rfl c19<|z2 (zLi isAgg3 rfl)<|za rfl rfl c19<|zi (at_spec _ _) rfl<|z2 (zPt rfl c19 rfl)<|z2 (zAb rfl)<|z6<|zj<|zl (x := .bool _) rfl ?_
     exact jb (by simp_all [termOK] <;> grind)
    ·refine z8 rfl rfl c19<|z8 rfl rfl c19<|z8 rfl rfl c19<|z8 rfl rfl c19<|z8 rfl rfl c19<|z2 (zPf rfl c19 rfl)<|z2 (zAb rfl)<|z6<|zj<|zl (x := .bool _) rfl ?_
     exact jb (by simp_all [termOK] <;> grind)
   ·refine z8 rfl rfl c18<|z8 rfl rfl c18<|z8 rfl rfl c18<|z8 rfl rfl c18<|z8 rfl rfl c18<|z2 (zPf rfl c18 rfl)<|z2 (zMb rfl)<|z8 rfl rfl rfl<|z8 rfl rfl rfl<|z8 rfl rfl rfl<|z8 rfl rfl rfl<|z8 rfl rfl rfl<|z2 (zPf rfl rfl rfl)<|z2 (zAb rfl)<|z6<|zj<|zl (x := .bool _) rfl ?_
    exact jb (by simp_all [termOK] <;> grind)
  ·refine zb<|z7 rfl<|z2 (y3 rfl rfl)<|z2 (zAb rfl)<|z6<|zu rfl (fun c20 => ?_) (fun c20 => ?_)
   ·refine zb<|z7 rfl<|z2 (zm isAgg26 sizeOf26 rfl rfl)<|z2 (zc underlying64 rfl sizeOf3 (by decide) rfl rfl)<|z2 (zLi isAgg3 rfl)<|zi (has_spec _ _) rfl<|z2 (zMb rfl)<|zn (s := 51) rfl (fun c21 => ?_) (fun c21 => ?_)
    ·refine za rfl rfl c21<|z2 (zc underlying64 rfl sizeOf62 (by decide) rfl rfl)<|za rfl rfl c21<|z2 (zm isAgg62 sizeOf62 rfl rfl)<|za rfl rfl c21<|z2 (Gv.buildA (cps := []) (rs := [.int .i64 0, .int .i64 0]) pl62 rfl rfl rfl)<|za rfl rfl c21<|z2 (Gv.eqlP (xs := [.int _ _, .int _ _]) (ys := [.int _ _, .int _ _]) (by kernel_rfl) rfl rfl (fun w => eq_arr10 _ _ _ _ w))<|z2 (zPt rfl c21 rfl)<|z2 (zAb rfl)<|z6<|zj<|zl (x := .bool _) rfl ?_
     exact jb (by simp_all [termOK] <;> grind)
    ·refine z8 rfl rfl c21<|z8 rfl rfl c21<|z8 rfl rfl c21<|z8 rfl rfl c21<|z2 (zPf rfl c21 rfl)<|z2 (zAb rfl)<|z6<|zj<|zl (x := .bool _) rfl ?_
     exact jb (by simp_all [termOK] <;> grind)
   ·refine ze<|zb<|z7 rfl<|z2 (zAb rfl)<|z6<|zj<|zl (x := .bool _) rfl ?_
    exact jb (by simp_all [termOK] <;> grind)
def encS (s : ByteArray) : List AV := [.str s]
end Go.Proofs.YtjnpcfpecilejaaGreatDoor
namespace Go.Proofs.YtjnpcfpecilejaaGreatDoor
open Go.Proofs.Tryz
open Go.Proofs Go.Lib Go.Shelf Go.RowKit
theorem pl222 : Places Tryz.prog 222 #[(0, 1), (1, 1), (2, 1)] [.str ⟨#[]⟩, .str ⟨#[]⟩, .str ⟨#[]⟩] := ⟨_, _, underlying222, zeroValue222, fun w => by kernel_rfl, rfl⟩
theorem ps223_27 : PlacesS Tryz.prog 223 222 27 3 [.str ⟨#[]⟩, .str ⟨#[]⟩, .str ⟨#[]⟩, .str ⟨#[]⟩, .str ⟨#[]⟩, .str ⟨#[]⟩, .str ⟨#[]⟩, .str ⟨#[]⟩, .str ⟨#[]⟩, .str ⟨#[]⟩, .str ⟨#[]⟩, .str ⟨#[]⟩, .str ⟨#[]⟩, .str ⟨#[]⟩, .str ⟨#[]⟩, .str ⟨#[]⟩, .str ⟨#[]⟩, .str ⟨#[]⟩, .str ⟨#[]⟩, .str ⟨#[]⟩, .str ⟨#[]⟩, .str ⟨#[]⟩, .str ⟨#[]⟩, .str ⟨#[]⟩, .str ⟨#[]⟩, .str ⟨#[]⟩, .str ⟨#[]⟩, .str ⟨#[]⟩, .str ⟨#[]⟩, .str ⟨#[]⟩, .str ⟨#[]⟩, .str ⟨#[]⟩, .str ⟨#[]⟩, .str ⟨#[]⟩, .str ⟨#[]⟩, .str ⟨#[]⟩, .str ⟨#[]⟩, .str ⟨#[]⟩, .str ⟨#[]⟩, .str ⟨#[]⟩, .str ⟨#[]⟩, .str ⟨#[]⟩, .str ⟨#[]⟩, .str ⟨#[]⟩, .str ⟨#[]⟩, .str ⟨#[]⟩, .str ⟨#[]⟩, .str ⟨#[]⟩, .str ⟨#[]⟩, .str ⟨#[]⟩, .str ⟨#[]⟩, .str ⟨#[]⟩, .str ⟨#[]⟩, .str ⟨#[]⟩, .str ⟨#[]⟩, .str ⟨#[]⟩, .str ⟨#[]⟩, .str ⟨#[]⟩, .str ⟨#[]⟩, .str ⟨#[]⟩, .str ⟨#[]⟩, .str ⟨#[]⟩, .str ⟨#[]⟩, .str ⟨#[]⟩, .str ⟨#[]⟩, .str ⟨#[]⟩, .str ⟨#[]⟩, .str ⟨#[]⟩, .str ⟨#[]⟩, .str ⟨#[]⟩, .str ⟨#[]⟩, .str ⟨#[]⟩, .str ⟨#[]⟩, .str ⟨#[]⟩, .str ⟨#[]⟩, .str ⟨#[]⟩, .str ⟨#[]⟩, .str ⟨#[]⟩, .str ⟨#[]⟩, .str ⟨#[]⟩, .str ⟨#[]⟩] := ⟨_, underlying223, sizeOf222, zeroValue222, by decide, by decide, by kernel_rfl⟩
set_option maxRecDepth 20000
variable {E : World}
def Letters (E : World) : Prop := Lib.TabIs Tryz.prog E "unicode.properties" .u8 Lib.propertiesTab ∧ RVar 1 letterT E
theorem letter_spec (c : Int) (h1 : -2147483648 ≤ c) (h2 : c ≤ 2147483647) (hL : Letters E) : AFun Tryz.prog E 233 [.int .i32 c] (.bool (isLetterU c)) :=
 AFun.ofBelow (vs := [.int .i32 c]) (r := .bool (isLetterU c)) func233 rfl (by decide) rfl fun w hw => Tryz.unicode_IsLetter_all c w h1 h2 (TabIs_below (g := 0) (by kernel_rfl) hL.1 hw) (RVar_below hL.2 hw)
theorem decode_ok (s : ByteArray) (p : Nat) : 1 ≤ (Utf8.decode s p).2 ∧ (Utf8.decode s p).1 ≤ 2097151 := by
 have h256 : ∀ k, (s.get! k).toNat < 256 := fun k => (s.get! k).toNat_lt
 unfold Utf8.decode
 dsimp only
 constructor
 ·repeat' split
  all_goals simp
 ·have h0 := h256 (p + 0)
  have h1 := h256 (p + 1)
  have h2 := h256 (p + 2)
  have h3 := h256 (p + 3)
  repeat' split
  all_goals (simp only [Utf8.runeError]; omega)
def okRune (c : Int) (n : Nat) : Bool := (isLetterU c && !decide (c = 65533)) || (!decide ((n : Int) = 0) && ((decide (48 ≤ c) && decide (c ≤ 57)) || decide (c = 46) || decide (c = 95)))
def nameFrom (s : ByteArray) (p n : Nat) : Bool :=
 if h : p < s.size then (if okRune (Utf8.decode s p).1 n then nameFrom s (p + (Utf8.decode s p).2) (n + 1) else false) else decide ((1 : Int) ≤ n) && decide ((n : Int) ≤ 16)
termination_by s.size - p
decreasing_by have := (decode_ok s p).1; omega
def nameB (s : ByteArray) : Bool := nameFrom s 0 0
theorem name_spec (s : ByteArray) (hs : s.size ≤ 140737488355328) (hL : Letters E) : AFun Tryz.prog E 214 [.str s] (.bool (nameB s)) := by
 refine zp func214 rfl (by decide) rfl<|zb<|z7 rfl<|z2 (zAb rfl)<|z6<|zb<|z7 rfl<|z2 (zAi rfl)<|z6<|zb<|zb<|z7 rfl<|z2 (zq (v := .str _) rfl)<|AOps.rangeT underlying9 rfl<|fun i8 => z6<|zh<|y8 (γ := Nat × Nat) [8] (fun g => [(3, .int .i64 g.2)]) (fun g => [(i8, .iter s g.1)]) (fun g => nameFrom s g.1 g.2 = nameB s ∧ g.2 ≤ g.1 ∧ g.2 ≤ s.size) (fun g => s.size - g.1) (0, 0) zR1 zLe (⟨rfl, Nat.le_refl _, qg _⟩) ?_
 rintro ⟨p, n⟩ ⟨hp, hn, hn2⟩
 try dsimp only at *
 by_cases hlt : p < s.size
 ·obtain ⟨hd1, hd2⟩ := decode_ok s p
  have hstep := hp
  rw [nameFrom, dif_pos hlt] at hstep
  refine zb<|z7 rfl<|AOps.nextT rfl .head hlt<|z2 (yh (v := .bool _) rfl rfl)<|z6<|zb<|yo rfl rfl<|ze<|zh<|zb<|z7 rfl<|z2 (yh (v := .int _ _) rfl rfl)<|z2 (zAi rfl)<|z6<|zb<|z7 rfl<|z2 (zMi rfl)<|zi (letter_spec _ (by omega) (by omega) hL) rfl<|z2 (zMb rfl)<|zn (s := 14) rfl (fun c1 => ?_) (fun c1 => ?_)
  ·refine za rfl rfl c1<|z2 (zMi rfl)<|za rfl rfl c1<|z2 (yl rfl rfl)<|z2 (zPt rfl c1 rfl)<|z2 (zAb rfl)<|z6<|zb<|zb<|z7 rfl<|z2 (zMb rfl)<|z2 (yj rfl)<|z2 (zMb rfl)<|zn (s := 20) rfl (fun c2 => ?_) (fun c2 => ?_)
   ·refine za rfl rfl c2<|z2 (zMi rfl)<|za rfl rfl c2<|z2 (y3 rfl rfl)<|za rfl rfl c2<|z2 (zMb rfl)<|zn (s := 23) rfl (fun c3 => ?_) (fun c3 => ?_)
    ·refine z8 rfl rfl c3<|z8 rfl rfl c3<|z8 rfl rfl c3<|zd rfl rfl<|zd rfl rfl<|z8 rfl rfl c3<|z8 rfl rfl c3<|z8 rfl rfl c3<|zd rfl rfl<|zd rfl rfl<|z8 rfl rfl c3<|z8 rfl rfl c3<|zd rfl rfl<|zd rfl rfl<|z8 rfl rfl c3<|za rfl rfl c2<|z2 (zPt rfl c3 rfl)<|z2 (zPt rfl c2 rfl)<|z6<|yo rfl rfl<|zb<|z7 rfl<|z2 (zAb rfl)<|z6<|zj<|zl (x := .bool _) rfl ?_
     rw [if_neg (by simp_all [okRune] <;> omega)] at hstep; exact jb hstep
    ·refine za rfl rfl c3<|z2 (zMi rfl)<|za rfl rfl c3<|z2 (q6 rfl rfl)<|za rfl rfl c3<|z2 (zMb rfl)<|zn (s := 26) rfl (fun c4 => ?_) (fun c4 => ?_)
     ·refine za rfl rfl c4<|z2 (zMi rfl)<|za rfl rfl c4<|z2 (Gv.leq rfl rfl)<|za rfl rfl c3<|z2 (zPt rfl c4 rfl)<|za rfl rfl c3<|z2 (yj rfl)<|za rfl rfl c3<|z2 (zMb rfl)<|zn (s := 31) rfl (fun c5 => ?_) (fun c5 => ?_)
      ·refine za rfl rfl c5<|z2 (zMi rfl)<|za rfl rfl c5<|z2 (yl rfl rfl)<|za rfl rfl c3<|z2 (zPt rfl c5 rfl)<|za rfl rfl c3<|z2 (zMb rfl)<|zn (s := 35) rfl (fun c6 => ?_) (fun c6 => ?_)
       ·refine za rfl rfl c6<|z2 (zMi rfl)<|za rfl rfl c6<|z2 (yl rfl rfl)<|za rfl rfl c3<|z2 (zPt rfl c6 rfl)<|za rfl rfl c2<|z2 (zPf rfl c3 rfl)<|z2 (zPt rfl c2 rfl)<|z6<|zu rfl (fun c7 => ?_) (fun c7 => ?_)
        ·refine zb<|z7 rfl<|z2 (zAb rfl)<|z6<|zj<|zl (x := .bool _) rfl ?_
         rw [if_neg (by simp_all [okRune] <;> omega)] at hstep; exact jb hstep
        ·refine ze<|z7 rfl<|z2 (zMi rfl)<|z2 (y9 rfl rfl (by unfold I64; omega))<|z2 (zAi rfl)<|z6 ?_
         exact ⟨(p + (Utf8.decode s p).2, n + 1), zR1, zR1, zLe, ⟨by rw [if_pos (by simp_all [okRune] <;> omega)] at hstep; exact hstep, by dsimp only; omega, by dsimp only; omega⟩, by dsimp only; omega⟩
       ·refine z8 rfl rfl c6<|z8 rfl rfl c6<|za rfl rfl c3<|z2 (zPf rfl c6 rfl)<|za rfl rfl c2<|z2 (zPf rfl c3 rfl)<|z2 (zPt rfl c2 rfl)<|z6<|yg rfl rfl<|ze<|z7 rfl<|z2 (zMi rfl)<|z2 (y9 rfl rfl (by unfold I64; omega))<|z2 (zAi rfl)<|z6 ?_
        exact ⟨(p + (Utf8.decode s p).2, n + 1), zR1, zR1, zLe, ⟨by rw [if_pos (by simp_all [okRune] <;> omega)] at hstep; exact hstep, by dsimp only; omega, by dsimp only; omega⟩, by dsimp only; omega⟩
      ·refine z8 rfl rfl c5<|z8 rfl rfl c5<|za rfl rfl c3<|z2 (zPf rfl c5 rfl)<|za rfl rfl c3<|z2 (zMb rfl)<|z8 rfl rfl rfl<|z8 rfl rfl rfl<|za rfl rfl c3<|z2 (zPf rfl rfl rfl)<|za rfl rfl c2<|z2 (zPf rfl c3 rfl)<|z2 (zPt rfl c2 rfl)<|z6<|yg rfl rfl<|ze<|z7 rfl<|z2 (zMi rfl)<|z2 (y9 rfl rfl (by unfold I64; omega))<|z2 (zAi rfl)<|z6 ?_
       exact ⟨(p + (Utf8.decode s p).2, n + 1), zR1, zR1, zLe, ⟨by rw [if_pos (by simp_all [okRune] <;> omega)] at hstep; exact hstep, by dsimp only; omega, by dsimp only; omega⟩, by dsimp only; omega⟩
     ·refine z8 rfl rfl c4<|z8 rfl rfl c4<|za rfl rfl c3<|z2 (zPf rfl c4 rfl)<|za rfl rfl c3<|z2 (yj rfl)<|za rfl rfl c3<|z2 (zMb rfl)<|za rfl rfl rfl<|z2 (zMi rfl)<|za rfl rfl rfl<|z2 (yl rfl rfl)<|za rfl rfl c3<|z2 (zPt rfl rfl rfl)<|za rfl rfl c3<|z2 (zMb rfl)<|zn (s := 35) rfl (fun c8 => ?_) (fun c8 => ?_)
      ·refine za rfl rfl c8<|z2 (zMi rfl)<|za rfl rfl c8<|z2 (yl rfl rfl)<|za rfl rfl c3<|z2 (zPt rfl c8 rfl)<|za rfl rfl c2<|z2 (zPf rfl c3 rfl)<|z2 (zPt rfl c2 rfl)<|z6<|zu rfl (fun c9 => ?_) (fun c9 => ?_)
       ·refine zb<|z7 rfl<|z2 (zAb rfl)<|z6<|zj<|zl (x := .bool _) rfl ?_
        rw [if_neg (by simp_all [okRune] <;> omega)] at hstep; exact jb hstep
       ·refine ze<|z7 rfl<|z2 (zMi rfl)<|z2 (y9 rfl rfl (by unfold I64; omega))<|z2 (zAi rfl)<|z6 ?_
        exact ⟨(p + (Utf8.decode s p).2, n + 1), zR1, zR1, zLe, ⟨by rw [if_pos (by simp_all [okRune] <;> omega)] at hstep; exact hstep, by dsimp only; omega, by dsimp only; omega⟩, by dsimp only; omega⟩
      ·refine z8 rfl rfl c8<|z8 rfl rfl c8<|za rfl rfl c3<|z2 (zPf rfl c8 rfl)<|za rfl rfl c2<|z2 (zPf rfl c3 rfl)<|z2 (zPt rfl c2 rfl)<|z6<|yg rfl rfl<|ze<|z7 rfl<|z2 (zMi rfl)<|z2 (y9 rfl rfl (by unfold I64; omega))<|z2 (zAi rfl)<|z6 ?_
       exact ⟨(p + (Utf8.decode s p).2, n + 1), zR1, zR1, zLe, ⟨by rw [if_pos (by simp_all [okRune] <;> omega)] at hstep; exact hstep, by dsimp only; omega, by dsimp only; omega⟩, by dsimp only; omega⟩
   ·refine z8 rfl rfl c2<|z8 rfl rfl c2<|z8 rfl rfl c2<|zd rfl rfl<|zd rfl rfl<|zd rfl rfl<|zd rfl rfl<|zd rfl rfl<|zd rfl rfl<|zd rfl rfl<|zd rfl rfl<|zd rfl rfl<|zd rfl rfl<|zd rfl rfl<|zd rfl rfl<|zd rfl rfl<|zd rfl rfl<|zd rfl rfl<|z8 rfl rfl c2<|z2 (zPf rfl c2 rfl)<|z6<|yg rfl rfl<|ze<|z7 rfl<|z2 (zMi rfl)<|z2 (y9 rfl rfl (by unfold I64; omega))<|z2 (zAi rfl)<|z6 ?_
    exact ⟨(p + (Utf8.decode s p).2, n + 1), zR1, zR1, zLe, ⟨by rw [if_pos (by simp_all [okRune] <;> omega)] at hstep; exact hstep, by dsimp only; omega, by dsimp only; omega⟩, by dsimp only; omega⟩
  ·refine z8 rfl rfl c1<|z8 rfl rfl c1<|z2 (zPf rfl c1 rfl)<|z2 (zAb rfl)<|z6<|zb<|zb<|z7 rfl<|z2 (zMb rfl)<|z2 (yj rfl)<|z2 (zMb rfl)<|za rfl rfl rfl<|z2 (zMi rfl)<|za rfl rfl rfl<|z2 (y3 rfl rfl)<|za rfl rfl rfl<|z2 (zMb rfl)<|zn (s := 23) rfl (fun c10 => ?_) (fun c10 => ?_)
   ·refine z8 rfl rfl c10<|z8 rfl rfl c10<|z8 rfl rfl c10<|zd rfl rfl<|zd rfl rfl<|z8 rfl rfl c10<|z8 rfl rfl c10<|z8 rfl rfl c10<|zd rfl rfl<|zd rfl rfl<|z8 rfl rfl c10<|z8 rfl rfl c10<|zd rfl rfl<|zd rfl rfl<|z8 rfl rfl c10<|za rfl rfl rfl<|z2 (zPt rfl c10 rfl)<|z2 (zPt rfl rfl rfl)<|z6<|yo rfl rfl<|zb<|z7 rfl<|z2 (zAb rfl)<|z6<|zj<|zl (x := .bool _) rfl ?_
    rw [if_neg (by simp_all [okRune] <;> omega)] at hstep; exact jb hstep
   ·refine za rfl rfl c10<|z2 (zMi rfl)<|za rfl rfl c10<|z2 (q6 rfl rfl)<|za rfl rfl c10<|z2 (zMb rfl)<|zn (s := 26) rfl (fun c11 => ?_) (fun c11 => ?_)
    ·refine za rfl rfl c11<|z2 (zMi rfl)<|za rfl rfl c11<|z2 (Gv.leq rfl rfl)<|za rfl rfl c10<|z2 (zPt rfl c11 rfl)<|za rfl rfl c10<|z2 (yj rfl)<|za rfl rfl c10<|z2 (zMb rfl)<|zn (s := 31) rfl (fun c12 => ?_) (fun c12 => ?_)
     ·refine za rfl rfl c12<|z2 (zMi rfl)<|za rfl rfl c12<|z2 (yl rfl rfl)<|za rfl rfl c10<|z2 (zPt rfl c12 rfl)<|za rfl rfl c10<|z2 (zMb rfl)<|zn (s := 35) rfl (fun c13 => ?_) (fun c13 => ?_)
      ·refine za rfl rfl c13<|z2 (zMi rfl)<|za rfl rfl c13<|z2 (yl rfl rfl)<|za rfl rfl c10<|z2 (zPt rfl c13 rfl)<|za rfl rfl rfl<|z2 (zPf rfl c10 rfl)<|z2 (zPt rfl rfl rfl)<|z6<|zu rfl (fun c14 => ?_) (fun c14 => ?_)
       ·refine zb<|z7 rfl<|z2 (zAb rfl)<|z6<|zj<|zl (x := .bool _) rfl ?_
        rw [if_neg (by simp_all [okRune] <;> omega)] at hstep; exact jb hstep
       ·refine ze<|z7 rfl<|z2 (zMi rfl)<|z2 (y9 rfl rfl (by unfold I64; omega))<|z2 (zAi rfl)<|z6 ?_
        exact ⟨(p + (Utf8.decode s p).2, n + 1), zR1, zR1, zLe, ⟨by rw [if_pos (by simp_all [okRune] <;> omega)] at hstep; exact hstep, by dsimp only; omega, by dsimp only; omega⟩, by dsimp only; omega⟩
      ·refine z8 rfl rfl c13<|z8 rfl rfl c13<|za rfl rfl c10<|z2 (zPf rfl c13 rfl)<|za rfl rfl rfl<|z2 (zPf rfl c10 rfl)<|z2 (zPt rfl rfl rfl)<|z6<|yg rfl rfl<|ze<|z7 rfl<|z2 (zMi rfl)<|z2 (y9 rfl rfl (by unfold I64; omega))<|z2 (zAi rfl)<|z6 ?_
       exact ⟨(p + (Utf8.decode s p).2, n + 1), zR1, zR1, zLe, ⟨by rw [if_pos (by simp_all [okRune] <;> omega)] at hstep; exact hstep, by dsimp only; omega, by dsimp only; omega⟩, by dsimp only; omega⟩
     ·refine z8 rfl rfl c12<|z8 rfl rfl c12<|za rfl rfl c10<|z2 (zPf rfl c12 rfl)<|za rfl rfl c10<|z2 (zMb rfl)<|z8 rfl rfl rfl<|z8 rfl rfl rfl<|za rfl rfl c10<|z2 (zPf rfl rfl rfl)<|za rfl rfl rfl<|z2 (zPf rfl c10 rfl)<|z2 (zPt rfl rfl rfl)<|z6<|yg rfl rfl<|ze<|z7 rfl<|z2 (zMi rfl)<|z2 (y9 rfl rfl (by unfold I64; omega))<|z2 (zAi rfl)<|z6 ?_
      exact ⟨(p + (Utf8.decode s p).2, n + 1), zR1, zR1, zLe, ⟨by rw [if_pos (by simp_all [okRune] <;> omega)] at hstep; exact hstep, by dsimp only; omega, by dsimp only; omega⟩, by dsimp only; omega⟩
    ·refine z8 rfl rfl c11<|z8 rfl rfl c11<|za rfl rfl c10<|z2 (zPf rfl c11 rfl)<|za rfl rfl c10<|z2 (yj rfl)<|za rfl rfl c10<|z2 (zMb rfl)<|za rfl rfl rfl<|z2 (zMi rfl)<|za rfl rfl rfl<|z2 (yl rfl rfl)<|za rfl rfl c10<|z2 (zPt rfl rfl rfl)<|za rfl rfl c10<|z2 (zMb rfl)<|zn (s := 35) rfl (fun c15 => ?_) (fun c15 => ?_)
     ·refine za rfl rfl c15<|z2 (zMi rfl)<|za rfl rfl c15<|z2 (yl rfl rfl)<|za rfl rfl c10<|z2 (zPt rfl c15 rfl)<|za rfl rfl rfl<|z2 (zPf rfl c10 rfl)<|z2 (zPt rfl rfl rfl)<|z6<|zu rfl (fun c16 => ?_) (fun c16 => ?_)
      ·refine zb<|z7 rfl<|z2 (zAb rfl)<|z6<|zj<|zl (x := .bool _) rfl ?_
       rw [if_neg (by simp_all [okRune] <;> omega)] at hstep; exact jb hstep
      ·refine ze<|z7 rfl<|z2 (zMi rfl)<|z2 (y9 rfl rfl (by unfold I64; omega))<|z2 (zAi rfl)<|z6 ?_
       exact ⟨(p + (Utf8.decode s p).2, n + 1), zR1, zR1, zLe, ⟨by rw [if_pos (by simp_all [okRune] <;> omega)] at hstep; exact hstep, by dsimp only; omega, by dsimp only; omega⟩, by dsimp only; omega⟩
     ·refine z8 rfl rfl c15<|z8 rfl rfl c15<|za rfl rfl c10<|z2 (zPf rfl c15 rfl)<|za rfl rfl rfl<|z2 (zPf rfl c10 rfl)<|z2 (zPt rfl rfl rfl)<|z6<|yg rfl rfl<|ze<|z7 rfl<|z2 (zMi rfl)<|z2 (y9 rfl rfl (by unfold I64; omega))<|z2 (zAi rfl)<|z6 ?_
      exact ⟨(p + (Utf8.decode s p).2, n + 1), zR1, zR1, zLe, ⟨by rw [if_pos (by simp_all [okRune] <;> omega)] at hstep; exact hstep, by dsimp only; omega, by dsimp only; omega⟩, by dsimp only; omega⟩
 ·rw [nameFrom, dif_neg hlt] at hp
  refine zb<|z7 rfl<|AOps.nextTover rfl .head hlt<|z2 (yh (v := .bool _) rfl rfl)<|z6<|zb<|yg rfl rfl<|y7<|zb<|z7 rfl<|z2 (zMi rfl)<|z2 (q6 rfl rfl)<|z2 (zMb rfl)<|zn (s := 45) rfl (fun c17 => ?_) (fun c17 => ?_)
  ·refine za rfl rfl c17<|z2 (zMi rfl)<|za rfl rfl c17<|z2 (Gv.leq rfl rfl)<|z2 (zPt rfl c17 rfl)<|z2 (zAb rfl)<|z6<|zj<|zl (x := .bool _) rfl ?_
   rw [← hp]; exact jb (by simp_all <;> (intros; omega))
  ·refine z8 rfl rfl c17<|z8 rfl rfl c17<|z2 (zPf rfl c17 rfl)<|z2 (zAb rfl)<|z6<|zj<|zl (x := .bool _) rfl ?_
   rw [← hp]; exact jb (by simp_all <;> (intros; omega))
theorem rows_spec : AFun Tryz.prog E 174 [] (.fro 3 (kindT.map encK)) := by
 refine zp func174 rfl (by decide) rfl<|zb<|z7 rfl<|z2 (zy (v := .raw _) rfl)<|z6<|zb<|z7 rfl<|z2 (zz (cps := [(0, [_]), (1, [_]), (2, [_])]) (rs := [_, _, _]) pl222 rfl rfl rfl)<|z2 (zz (cps := [(0, [_]), (1, [_]), (2, [_])]) (rs := [_, _, _]) pl222 rfl rfl rfl)<|z2 (zz (cps := [(0, [_]), (1, [_]), (2, [_])]) (rs := [_, _, _]) pl222 rfl rfl rfl)<|z2 (zz (cps := [(0, [_]), (1, [_]), (2, [_])]) (rs := [_, _, _]) pl222 rfl rfl rfl)<|z2 (zz (cps := [(0, [_]), (1, [_]), (2, [_])]) (rs := [_, _, _]) pl222 rfl rfl rfl)<|z2 (zz (cps := [(0, [_]), (1, [_]), (2, [_])]) (rs := [_, _, _]) pl222 rfl rfl rfl)<|z2 (zz (cps := [(0, [_]), (1, [_]), (2, [_])]) (rs := [_, _, _]) pl222 rfl rfl rfl)<|z2 (zz (cps := [(0, [_]), (1, [_]), (2, [_])]) (rs := [_, _, _]) pl222 rfl rfl rfl)<|z2 (zz (cps := [(0, [_]), (1, [_]), (2, [_])]) (rs := [_, _, _]) pl222 rfl rfl rfl)<|z2 (zz (cps := [(0, [_]), (1, [_]), (2, [_])]) (rs := [_, _, _]) pl222 rfl rfl rfl)<|z2 (zz (cps := [(0, [_]), (1, [_]), (2, [_])]) (rs := [_, _, _]) pl222 rfl rfl rfl)<|z2 (zz (cps := [(0, [_]), (1, [_]), (2, [_])]) (rs := [_, _, _]) pl222 rfl rfl rfl)<|z2 (zz (cps := [(0, [_]), (1, [_]), (2, [_])]) (rs := [_, _, _]) pl222 rfl rfl rfl)<|z2 (zz (cps := [(0, [_]), (1, [_]), (2, [_])]) (rs := [_, _, _]) pl222 rfl rfl rfl)<|z2 (zz (cps := [(0, [_]), (1, [_]), (2, [_])]) (rs := [_, _, _]) pl222 rfl rfl rfl)<|z2 (zz (cps := [(0, [_]), (1, [_]), (2, [_])]) (rs := [_, _, _]) pl222 rfl rfl rfl)<|z2 (zz (cps := [(0, [_]), (1, [_]), (2, [_])]) (rs := [_, _, _]) pl222 rfl rfl rfl)<|z2 (zz (cps := [(0, [_]), (1, [_]), (2, [_])]) (rs := [_, _, _]) pl222 rfl rfl rfl)<|z2 (zz (cps := [(0, [_]), (1, [_]), (2, [_])]) (rs := [_, _, _]) pl222 rfl rfl rfl)<|z2 (zz (cps := [(0, [_]), (1, [_]), (2, [_])]) (rs := [_, _, _]) pl222 rfl rfl rfl)<|z2 (zz (cps := [(0, [_]), (1, [_]), (2, [_])]) (rs := [_, _, _]) pl222 rfl rfl rfl)<|z2 (zz (cps := [(0, [_]), (1, [_]), (2, [_])]) (rs := [_, _, _]) pl222 rfl rfl rfl)<|z2 (zz (cps := [(0, [_]), (1, [_]), (2, [_])]) (rs := [_, _, _]) pl222 rfl rfl rfl)<|z2 (zz (cps := [(0, [_]), (1, [_]), (2, [_])]) (rs := [_, _, _]) pl222 rfl rfl rfl)<|z2 (zz (cps := [(0, [_]), (1, [_]), (2, [_])]) (rs := [_, _, _]) pl222 rfl rfl rfl)<|z2 (zz (cps := [(0, [_]), (1, [_]), (2, [_])]) (rs := [_, _, _]) pl222 rfl rfl rfl)<|z2 (zz (cps := [(0, [_]), (1, [_]), (2, [_])]) (rs := [_, _, _]) pl222 rfl rfl rfl)<|y5 (rows := [[_, _, _], [_, _, _], [_, _, _], [_, _, _], [_, _, _], [_, _, _], [_, _, _], [_, _, _], [_, _, _], [_, _, _], [_, _, _], [_, _, _], [_, _, _], [_, _, _], [_, _, _], [_, _, _], [_, _, _], [_, _, _], [_, _, _], [_, _, _], [_, _, _], [_, _, _], [_, _, _], [_, _, _], [_, _, _], [_, _, _], [_, _, _]]) ps223_27 rfl rfl rfl rfl rfl<|z2 (zAf rfl)<|z6<|zj<|zl (x := .fro _ _) rfl ?_
 rfl
theorem in_spec (k n : Int) : AFun Tryz.prog E 215 [.int .i64 k, .int .i64 n] (.bool (decide (0 ≤ k) && decide (k < n))) := by
 refine zp func215 rfl (by decide) rfl<|zb<|z7 rfl<|z2 (zAb rfl)<|z6<|zb<|z7 rfl<|z2 (zMi rfl)<|z2 (q6 rfl rfl)<|z2 (zMb rfl)<|zn (s := 7) rfl (fun c18 => ?_) (fun c18 => ?_)
 ·refine za rfl rfl c18<|z2 (zMi rfl)<|za rfl rfl c18<|z2 (zMi rfl)<|za rfl rfl c18<|z2 (yf rfl rfl)<|z2 (zPt rfl c18 rfl)<|z2 (zAb rfl)<|z6<|zj<|zl (x := .bool _) rfl ?_
  exact jb (by simp_all <;> omega)
 ·refine z8 rfl rfl c18<|z8 rfl rfl c18<|z8 rfl rfl c18<|z2 (zPf rfl c18 rfl)<|z2 (zAb rfl)<|z6<|zj<|zl (x := .bool _) rfl ?_
  exact jb (by simp_all <;> omega)
def strL (l : List UInt8) : ByteArray := ⟨l.toArray⟩
end Go.Proofs.YtjnpcfpecilejaaGreatDoor
