/- The document's own functions: names, the table, digits, what is the same, what has a text. No conditions but bounds. -/
import Derived.Test.YtiojekbkamegdaaGreatDoorJe
import Derived.Lib.ItoaLen
import Derived.Lib.Join
import Derived.Test.YtiojekbkamegdaaGreatDoorJd
set_option linter.unusedVariables false
set_option linter.unusedSimpArgs false
set_option linter.unusedSectionVars false
namespace Go.Proofs.YtiojekbkamegdaaGreatDoor
open Go.Proofs.Tryz
open Go.Proofs
theorem pl54 : PlacesA prog 54 1 [.int .i64 0, .int .i64 0] := ⟨_, _, _, underlying54, zeroValue54, sizeOf3, rfl⟩
set_option maxRecDepth 20000
variable {E : World}
def inst1 (f : PFunc) (x : PInst) : Bool := decide ((kRow x.op).1 = ⟨#[]⟩) || !decide (x.args.length = (takesL x.op).length) || !x.args.all (hasV f)
def inst2 (f : PFunc) (x : PInst) : Bool := (makesB x.op && !hasV f x.dst) || (!makesB x.op && !decide (x.dst = -1))
def instOK (f : PFunc) (x : PInst) : Bool := !inst1 f x && !inst2 f x && (decide (x.num = 0) || isNum x.op)
def termOK (f : PFunc) (t : PTerm) : Bool := if t.kind = 0 then hasB f t.to0 && decide (t.to1 = 0) && decide (t.var = 0) else if t.kind = 1 then hasV f t.var && hasB f t.to0 && hasB f t.to1 else
 if t.kind = 2 then hasV f t.var && decide (t.to0 = 0 ∧ t.to1 = 0) else false
theorem eq_arr10 (a b c d : Int) (w : World) : (Op.equalIn 10000 54 (.agg [.int .i64 a, .int .i64 b].toArray) (.agg [.int .i64 c, .int .i64 d].toArray)).run prog w = .ok (decide (a = c ∧ b = d)) w := eq_arr a b c d w 9998
theorem inst_spec (f : PFunc) (x : PInst) (hx : okL x.args) : AFun prog E 219 [.agg (encF f), .agg (encInst x)] (.bool (instOK f x)) := by
 have hl := hx.lt
 refine zn func219 rfl (by decide) rfl<|zSr<|yd (cs := _) rfl rfl rfl<|yd (cs := _) rfl rfl rfl<|z2 (zAb rfl)<|z6<|zSr<|z2 (zFF underlying61 rfl sizeOf59 rfl rfl)<|z2 (zLi isAgg59 rfl)<|zk (makes_spec _) rfl<|z2 (zMu rfl)<|z2 (zXi rfl rfl)<|z2 (zXb rfl rfl)<|z2 (zAi rfl)<|z2 (zAb rfl)<|z6<|za<|zf<|za<|yb (fun j => false) (by kernel_rfl) rfl (zq (.rest _))<|zTk 0 rfl (zFF underlying61 rfl sizeOf59 rfl rfl)<|zTk 1 rfl (zLi isAgg59 rfl)<|zOn 2 rfl<|zk (word_spec _) rfl<|z6<|zTk 3 rfl (qc rfl rfl)<|zTk 4 rfl (zMb rfl)<|AAny.case (s := 18) rfl (fun c1=>?_) (fun c1=>?_)
 ·refine zTf 5 rfl rfl rfl c1<|zTf 6 rfl rfl rfl c1<|zTf 7 rfl rfl rfl c1<|zTf 8 rfl rfl rfl c1<|zTf 9 rfl rfl rfl c1<|zTf 10 rfl rfl rfl c1<|zTf 11 rfl rfl rfl c1<|zTf 12 rfl rfl rfl c1<|zTk 13 rfl (zPt rfl c1 rfl)<|zTk 14 rfl (zMb rfl)<|zTf 15 rfl rfl rfl rfl<|zTf 16 rfl rfl rfl rfl<|zTf 17 rfl rfl rfl rfl<|zTf 18 rfl rfl rfl rfl<|zTf 19 rfl rfl rfl rfl<|zTk 20 rfl (zPt rfl rfl rfl)<|zTk 21 rfl (zAb rfl)<|zDn<|yk rfl rfl<|zSr<|z2 (zAb rfl)<|z6<|zh<|zj (x := .bool _) rfl ?_
  exact jb (by simp_all [instOK, inst1, inst2, Int.ofNat_inj] <;> grind)
 ·refine zTt 5 rfl rfl rfl c1 (zFF underlying61 rfl sizeOf23 rfl rfl)<|zTt 6 rfl rfl rfl c1 (zLf isAgg23 rfl)<|zTt 7 rfl rfl rfl c1 (zu underlying23 rfl)<|zTt 8 rfl rfl rfl c1 (zFF underlying61 rfl sizeOf59 rfl rfl)<|zTt 9 rfl rfl rfl c1 (zLi isAgg59 rfl)<|zOn 10 rfl<|z8 rfl rfl c1<|zk (takes_spec _) rfl<|z6<|zTt 11 rfl rfl rfl c1 (zu underlying286 rfl)<|zTt 12 rfl rfl rfl c1 (yi rfl rfl)<|zTk 13 rfl (zPf rfl c1 rfl)<|zTk 14 rfl (zMb rfl)<|AAny.case (s := 28) rfl (fun c2=>?_) (fun c2=>?_)
  ·refine zTf 15 rfl rfl rfl c2<|zTf 16 rfl rfl rfl c2<|zTf 17 rfl rfl rfl c2<|zTf 18 rfl rfl rfl c2<|zTf 19 rfl rfl rfl c2<|zTk 20 rfl (zPt rfl c2 rfl)<|zTk 21 rfl (zAb rfl)<|zDn<|yk rfl rfl<|zSr<|z2 (zAb rfl)<|z6<|zh<|zj (x := .bool _) rfl ?_
   exact jb (by simp_all [instOK, inst1, inst2, Int.ofNat_inj] <;> grind)
  ·refine zTt 15 rfl rfl rfl c2 (zl isAgg26 sizeOf26 rfl rfl)<|zTt 16 rfl rfl rfl c2 (zFF underlying61 rfl sizeOf23 rfl rfl)<|zTt 17 rfl rfl rfl c2 (zLf isAgg23 rfl)<|zOn 18 rfl<|z8 rfl rfl c2<|zk (vars_spec _ _ (by omega)) rfl<|z6<|zTt 19 rfl rfl rfl c2 (yo rfl)<|zTk 20 rfl (zPf rfl c2 rfl)<|zTk 21 rfl (zAb rfl)<|zDn<|zr rfl (fun c3=>?_) (fun c3=>?_)
   ·refine zSr<|z2 (zAb rfl)<|z6<|zh<|zj (x := .bool _) rfl ?_
    exact jb (by simp_all [instOK, inst1, inst2, Int.ofNat_inj] <;> grind)
   ·refine zSr<|z2 (zMb rfl)<|z2 (zMb rfl)<|zo (s := 37) rfl (fun c4=>?_) (fun c4=>?_)
    ·refine z8 rfl rfl c4<|z2 (zl isAgg26 sizeOf26 rfl rfl)<|z8 rfl rfl c4<|z2 (zFF underlying61 rfl sizeOf3 rfl rfl)<|z8 rfl rfl c4<|z2 (zLi isAgg3 rfl)<|z8 rfl rfl c4<|zk (has_spec _ _) rfl<|z8 rfl rfl c4<|z2 (yo rfl)<|z2 (zPt rfl c4 rfl)<|z2 (zMb rfl)<|zo (s := 44) rfl (fun c5=>?_) (fun c5=>?_)
     ·refine z7 rfl rfl c5<|z7 rfl rfl c5<|z7 rfl rfl c5<|zg rfl rfl<|zg rfl rfl<|zg rfl rfl<|z7 rfl rfl c5<|z2 (zPt rfl c5 rfl)<|z2 (zAb rfl)<|z6<|yk rfl rfl<|zSr<|z2 (zAb rfl)<|z6<|zh<|zj (x := .bool _) rfl ?_
      exact jb (by simp_all [instOK, inst1, inst2, Int.ofNat_inj] <;> grind)
     ·refine z8 rfl rfl c5<|z2 (zMb rfl)<|z8 rfl rfl c5<|z2 (yo rfl)<|z8 rfl rfl c5<|z2 (zMb rfl)<|zo (s := 47) rfl (fun c6=>?_) (fun c6=>?_)
      ·refine z8 rfl rfl c6<|z2 (zFF underlying61 rfl sizeOf3 rfl rfl)<|z8 rfl rfl c6<|z2 (zLi isAgg3 rfl)<|z8 rfl rfl c6<|z2 (yi rfl rfl)<|z8 rfl rfl c5<|z2 (zPt rfl c6 rfl)<|z2 (zPf rfl c5 rfl)<|z2 (zAb rfl)<|z6<|zr rfl (fun c7=>?_) (fun c7=>?_)
       ·refine zSr<|z2 (zAb rfl)<|z6<|zh<|zj (x := .bool _) rfl ?_
        exact jb (by simp_all [instOK, inst1, inst2, Int.ofNat_inj] <;> grind)
       ·refine zd<|zSr<|z2 (zFF underlying61 rfl sizeOf2 rfl rfl)<|z2 (zLi isAgg2 rfl)<|z2 (y9 rfl rfl)<|z2 (zMb rfl)<|zo (s := 56) rfl (fun c8=>?_) (fun c8=>?_)
        ·refine z7 rfl rfl c8<|z7 rfl rfl c8<|z7 rfl rfl c8<|z2 (zPt rfl c8 rfl)<|z2 (zAb rfl)<|z6<|zh<|zj (x := .bool _) rfl ?_
         exact jb (by simp_all [instOK, inst1, inst2, Int.ofNat_inj] <;> grind)
        ·refine z8 rfl rfl c8<|z2 (zFF underlying61 rfl sizeOf59 rfl rfl)<|z8 rfl rfl c8<|z2 (zLi isAgg59 rfl)<|z8 rfl rfl c8<|zk (numbered_spec _) rfl<|z2 (zPf rfl c8 rfl)<|z2 (zAb rfl)<|z6<|zh<|zj (x := .bool _) rfl ?_
         exact jb (by simp_all [instOK, inst1, inst2, Int.ofNat_inj] <;> grind)
      ·refine z7 rfl rfl c6<|z7 rfl rfl c6<|z7 rfl rfl c6<|z8 rfl rfl c5<|z2 (zPf rfl c6 rfl)<|z2 (zPf rfl c5 rfl)<|z2 (zAb rfl)<|z6<|yl rfl rfl<|zd<|zSr<|z2 (zFF underlying61 rfl sizeOf2 rfl rfl)<|z2 (zLi isAgg2 rfl)<|z2 (y9 rfl rfl)<|z2 (zMb rfl)<|zo (s := 56) rfl (fun c9=>?_) (fun c9=>?_)
       ·refine z7 rfl rfl c9<|z7 rfl rfl c9<|z7 rfl rfl c9<|z2 (zPt rfl c9 rfl)<|z2 (zAb rfl)<|z6<|zh<|zj (x := .bool _) rfl ?_
        exact jb (by simp_all [instOK, inst1, inst2, Int.ofNat_inj] <;> grind)
       ·refine z8 rfl rfl c9<|z2 (zFF underlying61 rfl sizeOf59 rfl rfl)<|z8 rfl rfl c9<|z2 (zLi isAgg59 rfl)<|z8 rfl rfl c9<|zk (numbered_spec _) rfl<|z2 (zPf rfl c9 rfl)<|z2 (zAb rfl)<|z6<|zh<|zj (x := .bool _) rfl ?_
        exact jb (by simp_all [instOK, inst1, inst2, Int.ofNat_inj] <;> grind)
    ·refine z7 rfl rfl c4<|z7 rfl rfl c4<|z7 rfl rfl c4<|z7 rfl rfl c4<|z7 rfl rfl c4<|z2 (zPf rfl c4 rfl)<|z2 (zMb rfl)<|z8 rfl rfl rfl<|z2 (zMb rfl)<|z8 rfl rfl rfl<|z2 (yo rfl)<|z8 rfl rfl rfl<|z2 (zMb rfl)<|zo (s := 47) rfl (fun c10=>?_) (fun c10=>?_)
     ·refine z8 rfl rfl c10<|z2 (zFF underlying61 rfl sizeOf3 rfl rfl)<|z8 rfl rfl c10<|z2 (zLi isAgg3 rfl)<|z8 rfl rfl c10<|z2 (yi rfl rfl)<|z8 rfl rfl rfl<|z2 (zPt rfl c10 rfl)<|z2 (zPf rfl rfl rfl)<|z2 (zAb rfl)<|z6<|zr rfl (fun c11=>?_) (fun c11=>?_)
      ·refine zSr<|z2 (zAb rfl)<|z6<|zh<|zj (x := .bool _) rfl ?_
       exact jb (by simp_all [instOK, inst1, inst2, Int.ofNat_inj] <;> grind)
      ·refine zd<|zSr<|z2 (zFF underlying61 rfl sizeOf2 rfl rfl)<|z2 (zLi isAgg2 rfl)<|z2 (y9 rfl rfl)<|z2 (zMb rfl)<|zo (s := 56) rfl (fun c12=>?_) (fun c12=>?_)
       ·refine z7 rfl rfl c12<|z7 rfl rfl c12<|z7 rfl rfl c12<|z2 (zPt rfl c12 rfl)<|z2 (zAb rfl)<|z6<|zh<|zj (x := .bool _) rfl ?_
        exact jb (by simp_all [instOK, inst1, inst2, Int.ofNat_inj] <;> grind)
       ·refine z8 rfl rfl c12<|z2 (zFF underlying61 rfl sizeOf59 rfl rfl)<|z8 rfl rfl c12<|z2 (zLi isAgg59 rfl)<|z8 rfl rfl c12<|zk (numbered_spec _) rfl<|z2 (zPf rfl c12 rfl)<|z2 (zAb rfl)<|z6<|zh<|zj (x := .bool _) rfl ?_
        exact jb (by simp_all [instOK, inst1, inst2, Int.ofNat_inj] <;> grind)
     ·refine z7 rfl rfl c10<|z7 rfl rfl c10<|z7 rfl rfl c10<|z8 rfl rfl rfl<|z2 (zPf rfl c10 rfl)<|z2 (zPf rfl rfl rfl)<|z2 (zAb rfl)<|z6<|yl rfl rfl<|zd<|zSr<|z2 (zFF underlying61 rfl sizeOf2 rfl rfl)<|z2 (zLi isAgg2 rfl)<|z2 (y9 rfl rfl)<|z2 (zMb rfl)<|zo (s := 56) rfl (fun c13=>?_) (fun c13=>?_)
      ·refine z7 rfl rfl c13<|z7 rfl rfl c13<|z7 rfl rfl c13<|z2 (zPt rfl c13 rfl)<|z2 (zAb rfl)<|z6<|zh<|zj (x := .bool _) rfl ?_
       exact jb (by simp_all [instOK, inst1, inst2, Int.ofNat_inj] <;> grind)
      ·refine z8 rfl rfl c13<|z2 (zFF underlying61 rfl sizeOf59 rfl rfl)<|z8 rfl rfl c13<|z2 (zLi isAgg59 rfl)<|z8 rfl rfl c13<|zk (numbered_spec _) rfl<|z2 (zPf rfl c13 rfl)<|z2 (zAb rfl)<|z6<|zh<|zj (x := .bool _) rfl ?_
       exact jb (by simp_all [instOK, inst1, inst2, Int.ofNat_inj] <;> grind)
theorem term_spec (f : PFunc) (t : PTerm) : AFun prog E 220 [.agg (encF f), .agg (encTerm t)] (.bool (termOK f t)) := by
 refine zn func220 rfl (by decide) rfl<|zSr<|yd (cs := _) rfl rfl rfl<|yd (cs := _) rfl rfl rfl<|z2 (zAb rfl)<|z6<|za<|zSr<|z2 (zFF underlying56 rfl sizeOf53 rfl rfl)<|z2 (zLi isAgg53 rfl)<|z6<|zf<|zSr<|z2 (y9 rfl rfl)<|z2 (zAb rfl)<|z6<|zr rfl (fun c14=>?_) (fun c14=>?_)
 ·refine zSr<|z2 (zl isAgg26 sizeOf26 rfl rfl)<|z2 (zFF underlying56 rfl sizeOf54 rfl rfl)<|z2 (yx (j := 0) underlying54 sizeOf3 rfl rfl rfl (by decide) rfl)<|z2 (zLi isAgg3 rfl)<|zk (at_spec _ _) rfl<|z2 (zMb rfl)<|zo (s := 14) rfl (fun c15=>?_) (fun c15=>?_)
  ·refine z8 rfl rfl c15<|z2 (zFF underlying56 rfl sizeOf54 rfl rfl)<|z8 rfl rfl c15<|z2 (yx (j := 1) underlying54 sizeOf3 rfl rfl rfl (by decide) rfl)<|z8 rfl rfl c15<|z2 (zLi isAgg3 rfl)<|z8 rfl rfl c15<|z2 (y9 rfl rfl)<|z2 (zPt rfl c15 rfl)<|z2 (zMb rfl)<|zo (s := 20) rfl (fun c16=>?_) (fun c16=>?_)
   ·refine z8 rfl rfl c16<|z2 (zFF underlying56 rfl sizeOf3 rfl rfl)<|z8 rfl rfl c16<|z2 (zLi isAgg3 rfl)<|z8 rfl rfl c16<|z2 (y9 rfl rfl)<|z2 (zPt rfl c16 rfl)<|z2 (zAb rfl)<|z6<|zh<|zj (x := .bool _) rfl ?_
    exact jb (by simp_all [termOK] <;> grind)
   ·refine z7 rfl rfl c16<|z7 rfl rfl c16<|z7 rfl rfl c16<|z2 (zPf rfl c16 rfl)<|z2 (zAb rfl)<|z6<|zh<|zj (x := .bool _) rfl ?_
    exact jb (by simp_all [termOK] <;> grind)
  ·refine z7 rfl rfl c15<|z7 rfl rfl c15<|z7 rfl rfl c15<|z7 rfl rfl c15<|z2 (zPf rfl c15 rfl)<|z2 (zMb rfl)<|z7 rfl rfl rfl<|z7 rfl rfl rfl<|z7 rfl rfl rfl<|z2 (zPf rfl rfl rfl)<|z2 (zAb rfl)<|z6<|zh<|zj (x := .bool _) rfl ?_
   exact jb (by simp_all [termOK] <;> grind)
 ·refine zSr<|z2 (y9 rfl rfl)<|z2 (zAb rfl)<|z6<|zr rfl (fun c17=>?_) (fun c17=>?_)
  ·refine zSr<|z2 (zl isAgg26 sizeOf26 rfl rfl)<|z2 (zFF underlying56 rfl sizeOf3 rfl rfl)<|z2 (zLi isAgg3 rfl)<|zk (has_spec _ _) rfl<|z2 (zMb rfl)<|zo (s := 31) rfl (fun c18=>?_) (fun c18=>?_)
   ·refine z8 rfl rfl c18<|z2 (zl isAgg26 sizeOf26 rfl rfl)<|z8 rfl rfl c18<|z2 (zFF underlying56 rfl sizeOf54 rfl rfl)<|z8 rfl rfl c18<|z2 (yx (j := 0) underlying54 sizeOf3 rfl rfl rfl (by decide) rfl)<|z8 rfl rfl c18<|z2 (zLi isAgg3 rfl)<|z8 rfl rfl c18<|zk (at_spec _ _) rfl<|z2 (zPt rfl c18 rfl)<|z2 (zMb rfl)<|zo (s := 38) rfl (fun c19=>?_) (fun c19=>?_)
    ·refine z8 rfl rfl c19<|z2 (zl isAgg26 sizeOf26 rfl rfl)<|z8 rfl rfl c19<|z2 (zFF underlying56 rfl sizeOf54 rfl rfl)<|z8 rfl rfl c19<|z2 (yx (j := 1) underlying54 sizeOf3 rfl rfl rfl (by decide) rfl)<|z8 rfl rfl c19<|z2 (zLi isAgg3 rfl)<|z8 rfl rfl c19<|zk (at_spec _ _) rfl<|z2 (zPt rfl c19 rfl)<|z2 (zAb rfl)<|z6<|zh<|zj (x := .bool _) rfl ?_
     exact jb (by simp_all [termOK] <;> grind)
    ·refine z7 rfl rfl c19<|z7 rfl rfl c19<|z7 rfl rfl c19<|z7 rfl rfl c19<|z7 rfl rfl c19<|z2 (zPf rfl c19 rfl)<|z2 (zAb rfl)<|z6<|zh<|zj (x := .bool _) rfl ?_
     exact jb (by simp_all [termOK] <;> grind)
   ·refine z7 rfl rfl c18<|z7 rfl rfl c18<|z7 rfl rfl c18<|z7 rfl rfl c18<|z7 rfl rfl c18<|z2 (zPf rfl c18 rfl)<|z2 (zMb rfl)<|z7 rfl rfl rfl<|z7 rfl rfl rfl<|z7 rfl rfl rfl<|z7 rfl rfl rfl<|z7 rfl rfl rfl<|z2 (zPf rfl rfl rfl)<|z2 (zAb rfl)<|z6<|zh<|zj (x := .bool _) rfl ?_
    exact jb (by simp_all [termOK] <;> grind)
  ·refine zSr<|z2 (y9 rfl rfl)<|z2 (zAb rfl)<|z6<|zr rfl (fun c20=>?_) (fun c20=>?_)
   ·refine zSr<|z2 (zl isAgg26 sizeOf26 rfl rfl)<|z2 (zFF underlying56 rfl sizeOf3 rfl rfl)<|z2 (zLi isAgg3 rfl)<|zk (has_spec _ _) rfl<|z2 (zMb rfl)<|zo (s := 51) rfl (fun c21=>?_) (fun c21=>?_)
    ·refine z8 rfl rfl c21<|z2 (zFF underlying56 rfl sizeOf54 rfl rfl)<|z8 rfl rfl c21<|z2 (zl isAgg54 sizeOf54 rfl rfl)<|z8 rfl rfl c21<|z2 (Gv.buildA (cps := []) (rs := [.int .i64 0, .int .i64 0]) pl54 rfl rfl rfl)<|z8 rfl rfl c21<|z2 (Gv.eqlP (xs := [.int _ _, .int _ _]) (ys := [.int _ _, .int _ _]) (by kernel_rfl) rfl rfl (fun w => eq_arr10 _ _ _ _ w))<|z2 (zPt rfl c21 rfl)<|z2 (zAb rfl)<|z6<|zh<|zj (x := .bool _) rfl ?_
     exact jb (by simp_all [termOK] <;> grind)
    ·refine z7 rfl rfl c21<|z7 rfl rfl c21<|z7 rfl rfl c21<|z7 rfl rfl c21<|z2 (zPf rfl c21 rfl)<|z2 (zAb rfl)<|z6<|zh<|zj (x := .bool _) rfl ?_
     exact jb (by simp_all [termOK] <;> grind)
   ·refine zd<|zSr<|z2 (zAb rfl)<|z6<|zh<|zj (x := .bool _) rfl ?_
    exact jb (by simp_all [termOK] <;> grind)
def encS (s : ByteArray) : List AV := [.str s]
end Go.Proofs.YtiojekbkamegdaaGreatDoor
namespace Go.Proofs.YtiojekbkamegdaaGreatDoor
open Go.Proofs.Tryz
open Go.Proofs Go.Lib Go.Shelf Go.RowKit
theorem pl170 : Places prog 170 #[(0, 1), (1, 1), (2, 1)] [.str ⟨#[]⟩, .str ⟨#[]⟩, .str ⟨#[]⟩] := ⟨_, _, underlying170, zeroValue170, fun w => by kernel_rfl, rfl⟩
theorem ps171_27 : PlacesS prog 171 170 27 3 [.str ⟨#[]⟩, .str ⟨#[]⟩, .str ⟨#[]⟩, .str ⟨#[]⟩, .str ⟨#[]⟩, .str ⟨#[]⟩, .str ⟨#[]⟩, .str ⟨#[]⟩, .str ⟨#[]⟩, .str ⟨#[]⟩, .str ⟨#[]⟩, .str ⟨#[]⟩, .str ⟨#[]⟩, .str ⟨#[]⟩, .str ⟨#[]⟩, .str ⟨#[]⟩, .str ⟨#[]⟩, .str ⟨#[]⟩, .str ⟨#[]⟩, .str ⟨#[]⟩, .str ⟨#[]⟩, .str ⟨#[]⟩, .str ⟨#[]⟩, .str ⟨#[]⟩, .str ⟨#[]⟩, .str ⟨#[]⟩, .str ⟨#[]⟩, .str ⟨#[]⟩, .str ⟨#[]⟩, .str ⟨#[]⟩, .str ⟨#[]⟩, .str ⟨#[]⟩, .str ⟨#[]⟩, .str ⟨#[]⟩, .str ⟨#[]⟩, .str ⟨#[]⟩, .str ⟨#[]⟩, .str ⟨#[]⟩, .str ⟨#[]⟩, .str ⟨#[]⟩, .str ⟨#[]⟩, .str ⟨#[]⟩, .str ⟨#[]⟩, .str ⟨#[]⟩, .str ⟨#[]⟩, .str ⟨#[]⟩, .str ⟨#[]⟩, .str ⟨#[]⟩, .str ⟨#[]⟩, .str ⟨#[]⟩, .str ⟨#[]⟩, .str ⟨#[]⟩, .str ⟨#[]⟩, .str ⟨#[]⟩, .str ⟨#[]⟩, .str ⟨#[]⟩, .str ⟨#[]⟩, .str ⟨#[]⟩, .str ⟨#[]⟩, .str ⟨#[]⟩, .str ⟨#[]⟩, .str ⟨#[]⟩, .str ⟨#[]⟩, .str ⟨#[]⟩, .str ⟨#[]⟩, .str ⟨#[]⟩, .str ⟨#[]⟩, .str ⟨#[]⟩, .str ⟨#[]⟩, .str ⟨#[]⟩, .str ⟨#[]⟩, .str ⟨#[]⟩, .str ⟨#[]⟩, .str ⟨#[]⟩, .str ⟨#[]⟩, .str ⟨#[]⟩, .str ⟨#[]⟩, .str ⟨#[]⟩, .str ⟨#[]⟩, .str ⟨#[]⟩, .str ⟨#[]⟩] := ⟨_, underlying171, sizeOf170, zeroValue170, by decide, by decide, by kernel_rfl⟩
set_option maxRecDepth 20000
variable {E : World}
def Letters (E : World) : Prop := Lib.TabIs prog E "unicode.properties" .u8 Lib.propertiesTab ∧ RVar 1 letterT E
theorem letter_spec (c : Int) (h1 : -2147483648 ≤ c) (h2 : c ≤ 2147483647) (hL : Letters E) : AFun prog E 193 [.int .i32 c] (.bool (isLetterU c)) :=
 AFun.ofBelow (vs := [.int .i32 c]) (r := .bool (isLetterU c)) func193 rfl (by decide) rfl fun w hw => Tryz.unicode_IsLetter_all c w h1 h2 (TabIs_below (g := 0) (by kernel_rfl) hL.1 hw) (RVar_below hL.2 hw)
theorem decode_ok (s : ByteArray) (p : Nat) : 1 ≤ (Utf8.decode s p).2 ∧ (Utf8.decode s p).1 ≤ 2097151 := by
 have h256 : ∀ k, (s.get! k).toNat < 256 := fun k => (s.get! k).toNat_lt
 unfold Utf8.decode
 dsimp only
 constructor
 ·repeat' split
  all_goals simp
 ·have h0 := h256 (p + 0)
  have h1 := h256 (p + 1)
  have h2 := h256 (p + 2)
  have h3 := h256 (p + 3)
  repeat' split
  all_goals (simp only [Utf8.runeError]; omega)
def okRune (c : Int) (n : Nat) : Bool := (isLetterU c && !decide (c = 65533)) || (!decide ((n : Int) = 0) && ((decide (48 ≤ c) && decide (c ≤ 57)) || decide (c = 46) || decide (c = 95)))
def nameFrom (s : ByteArray) (p n : Nat) : Bool :=
 if h : p < s.size then (if okRune (Utf8.decode s p).1 n then nameFrom s (p + (Utf8.decode s p).2) (n + 1) else false) else decide ((1 : Int) ≤ n) && decide ((n : Int) ≤ 16)
termination_by s.size - p
decreasing_by have := (decode_ok s p).1; omega
def nameB (s : ByteArray) : Bool := nameFrom s 0 0
theorem name_spec (s : ByteArray) (hs : s.size ≤ 140737488355328) (hL : Letters E) : AFun prog E 157 [.str s] (.bool (nameB s)) := by
 refine zn func157 rfl (by decide) rfl<|zSr<|z2 (zAb rfl)<|z6<|zSr<|z2 (zAi rfl)<|z6<|za<|zSr<|z2 (yj (v := .str _) rfl)<|AOps.rangeT underlying9 rfl<|fun i8 => z6<|zf<|zz (γ := Nat × Nat) [8] (fun g => [(3, .int .i64 g.2)]) (fun g => [(i8, .iter s g.1)]) (fun g => nameFrom s g.1 g.2 = nameB s ∧ g.2 ≤ g.1 ∧ g.2 ≤ s.size) (fun g => s.size - g.1) (0, 0) zR1 zLe (⟨rfl, Nat.le_refl _, qm _⟩) ?_
 rintro ⟨p, n⟩ ⟨hp, hn, hn2⟩
 try dsimp only at *
 by_cases hlt : p < s.size
 ·obtain ⟨hd1, hd2⟩ := decode_ok s p
  have hstep := hp
  rw [nameFrom, dif_pos hlt] at hstep
  refine zSr<|AOps.nextT rfl .head hlt<|z2 (zXb rfl rfl)<|z6<|za<|yk rfl rfl<|zd<|zf<|zSr<|z2 (zXi rfl rfl)<|z2 (zAi rfl)<|z6<|zSr<|z2 (zMi rfl)<|zk (letter_spec _ (by omega) (by omega) hL) rfl<|z2 (zMb rfl)<|zo (s := 14) rfl (fun c1=>?_) (fun c1=>?_)
  ·refine z8 rfl rfl c1<|z2 (zMi rfl)<|z8 rfl rfl c1<|z2 (yi rfl rfl)<|z2 (zPt rfl c1 rfl)<|z2 (zAb rfl)<|z6<|za<|zSr<|z2 (zMb rfl)<|z2 (yo rfl)<|z2 (zMb rfl)<|zo (s := 20) rfl (fun c2=>?_) (fun c2=>?_)
   ·refine z8 rfl rfl c2<|z2 (zMi rfl)<|z8 rfl rfl c2<|z2 (y9 rfl rfl)<|z8 rfl rfl c2<|z2 (zMb rfl)<|zo (s := 23) rfl (fun c3=>?_) (fun c3=>?_)
    ·refine z7 rfl rfl c3<|z7 rfl rfl c3<|z7 rfl rfl c3<|zg rfl rfl<|zg rfl rfl<|z7 rfl rfl c3<|z7 rfl rfl c3<|z7 rfl rfl c3<|zg rfl rfl<|zg rfl rfl<|z7 rfl rfl c3<|z7 rfl rfl c3<|zg rfl rfl<|zg rfl rfl<|z7 rfl rfl c3<|z8 rfl rfl c2<|z2 (zPt rfl c3 rfl)<|z2 (zPt rfl c2 rfl)<|z6<|yk rfl rfl<|zSr<|z2 (zAb rfl)<|z6<|zh<|zj (x := .bool _) rfl ?_
     rw [if_neg (by simp_all [okRune] <;> omega)] at hstep; exact jb hstep
    ·refine z8 rfl rfl c3<|z2 (zMi rfl)<|z8 rfl rfl c3<|z2 (Gv.geq rfl rfl)<|z8 rfl rfl c3<|z2 (zMb rfl)<|zo (s := 26) rfl (fun c4=>?_) (fun c4=>?_)
     ·refine z8 rfl rfl c4<|z2 (zMi rfl)<|z8 rfl rfl c4<|z2 (Gv.leq rfl rfl)<|z8 rfl rfl c3<|z2 (zPt rfl c4 rfl)<|z8 rfl rfl c3<|z2 (yo rfl)<|z8 rfl rfl c3<|z2 (zMb rfl)<|zo (s := 31) rfl (fun c5=>?_) (fun c5=>?_)
      ·refine z8 rfl rfl c5<|z2 (zMi rfl)<|z8 rfl rfl c5<|z2 (yi rfl rfl)<|z8 rfl rfl c3<|z2 (zPt rfl c5 rfl)<|z8 rfl rfl c3<|z2 (zMb rfl)<|zo (s := 35) rfl (fun c6=>?_) (fun c6=>?_)
       ·refine z8 rfl rfl c6<|z2 (zMi rfl)<|z8 rfl rfl c6<|z2 (yi rfl rfl)<|z8 rfl rfl c3<|z2 (zPt rfl c6 rfl)<|z8 rfl rfl c2<|z2 (zPf rfl c3 rfl)<|z2 (zPt rfl c2 rfl)<|z6<|zr rfl (fun c7=>?_) (fun c7=>?_)
        ·refine zSr<|z2 (zAb rfl)<|z6<|zh<|zj (x := .bool _) rfl ?_
         rw [if_neg (by simp_all [okRune] <;> omega)] at hstep; exact jb hstep
        ·refine zd<|zRg<|z2 (zMi rfl)<|z2 (zAd rfl rfl)<|z2 (zAi rfl)<|z6 ?_
         exact ⟨(p + (Utf8.decode s p).2, n + 1), zR1, zR1, zLe, ⟨by rw [if_pos (by simp_all [okRune] <;> omega)] at hstep; exact hstep, by dsimp only; omega, by dsimp only; omega⟩, by dsimp only; omega⟩
       ·refine z7 rfl rfl c6<|z7 rfl rfl c6<|z8 rfl rfl c3<|z2 (zPf rfl c6 rfl)<|z8 rfl rfl c2<|z2 (zPf rfl c3 rfl)<|z2 (zPt rfl c2 rfl)<|z6<|yl rfl rfl<|zd<|zRg<|z2 (zMi rfl)<|z2 (zAd rfl rfl)<|z2 (zAi rfl)<|z6 ?_
        exact ⟨(p + (Utf8.decode s p).2, n + 1), zR1, zR1, zLe, ⟨by rw [if_pos (by simp_all [okRune] <;> omega)] at hstep; exact hstep, by dsimp only; omega, by dsimp only; omega⟩, by dsimp only; omega⟩
      ·refine z7 rfl rfl c5<|z7 rfl rfl c5<|z8 rfl rfl c3<|z2 (zPf rfl c5 rfl)<|z8 rfl rfl c3<|z2 (zMb rfl)<|z7 rfl rfl rfl<|z7 rfl rfl rfl<|z8 rfl rfl c3<|z2 (zPf rfl rfl rfl)<|z8 rfl rfl c2<|z2 (zPf rfl c3 rfl)<|z2 (zPt rfl c2 rfl)<|z6<|yl rfl rfl<|zd<|zRg<|z2 (zMi rfl)<|z2 (zAd rfl rfl)<|z2 (zAi rfl)<|z6 ?_
       exact ⟨(p + (Utf8.decode s p).2, n + 1), zR1, zR1, zLe, ⟨by rw [if_pos (by simp_all [okRune] <;> omega)] at hstep; exact hstep, by dsimp only; omega, by dsimp only; omega⟩, by dsimp only; omega⟩
     ·refine z7 rfl rfl c4<|z7 rfl rfl c4<|z8 rfl rfl c3<|z2 (zPf rfl c4 rfl)<|z8 rfl rfl c3<|z2 (yo rfl)<|z8 rfl rfl c3<|z2 (zMb rfl)<|z8 rfl rfl rfl<|z2 (zMi rfl)<|z8 rfl rfl rfl<|z2 (yi rfl rfl)<|z8 rfl rfl c3<|z2 (zPt rfl rfl rfl)<|z8 rfl rfl c3<|z2 (zMb rfl)<|zo (s := 35) rfl (fun c8=>?_) (fun c8=>?_)
      ·refine z8 rfl rfl c8<|z2 (zMi rfl)<|z8 rfl rfl c8<|z2 (yi rfl rfl)<|z8 rfl rfl c3<|z2 (zPt rfl c8 rfl)<|z8 rfl rfl c2<|z2 (zPf rfl c3 rfl)<|z2 (zPt rfl c2 rfl)<|z6<|zr rfl (fun c9=>?_) (fun c9=>?_)
       ·refine zSr<|z2 (zAb rfl)<|z6<|zh<|zj (x := .bool _) rfl ?_
        rw [if_neg (by simp_all [okRune] <;> omega)] at hstep; exact jb hstep
       ·refine zd<|zRg<|z2 (zMi rfl)<|z2 (zAd rfl rfl)<|z2 (zAi rfl)<|z6 ?_
        exact ⟨(p + (Utf8.decode s p).2, n + 1), zR1, zR1, zLe, ⟨by rw [if_pos (by simp_all [okRune] <;> omega)] at hstep; exact hstep, by dsimp only; omega, by dsimp only; omega⟩, by dsimp only; omega⟩
      ·refine z7 rfl rfl c8<|z7 rfl rfl c8<|z8 rfl rfl c3<|z2 (zPf rfl c8 rfl)<|z8 rfl rfl c2<|z2 (zPf rfl c3 rfl)<|z2 (zPt rfl c2 rfl)<|z6<|yl rfl rfl<|zd<|zRg<|z2 (zMi rfl)<|z2 (zAd rfl rfl)<|z2 (zAi rfl)<|z6 ?_
       exact ⟨(p + (Utf8.decode s p).2, n + 1), zR1, zR1, zLe, ⟨by rw [if_pos (by simp_all [okRune] <;> omega)] at hstep; exact hstep, by dsimp only; omega, by dsimp only; omega⟩, by dsimp only; omega⟩
   ·refine z7 rfl rfl c2<|z7 rfl rfl c2<|z7 rfl rfl c2<|zg rfl rfl<|zg rfl rfl<|zg rfl rfl<|zg rfl rfl<|zg rfl rfl<|zg rfl rfl<|zg rfl rfl<|zg rfl rfl<|zg rfl rfl<|zg rfl rfl<|zg rfl rfl<|zg rfl rfl<|zg rfl rfl<|zg rfl rfl<|zg rfl rfl<|z7 rfl rfl c2<|z2 (zPf rfl c2 rfl)<|z6<|yl rfl rfl<|zd<|zRg<|z2 (zMi rfl)<|z2 (zAd rfl rfl)<|z2 (zAi rfl)<|z6 ?_
    exact ⟨(p + (Utf8.decode s p).2, n + 1), zR1, zR1, zLe, ⟨by rw [if_pos (by simp_all [okRune] <;> omega)] at hstep; exact hstep, by dsimp only; omega, by dsimp only; omega⟩, by dsimp only; omega⟩
  ·refine z7 rfl rfl c1<|z7 rfl rfl c1<|z2 (zPf rfl c1 rfl)<|z2 (zAb rfl)<|z6<|za<|zSr<|z2 (zMb rfl)<|z2 (yo rfl)<|z2 (zMb rfl)<|z8 rfl rfl rfl<|z2 (zMi rfl)<|z8 rfl rfl rfl<|z2 (y9 rfl rfl)<|z8 rfl rfl rfl<|z2 (zMb rfl)<|zo (s := 23) rfl (fun c10=>?_) (fun c10=>?_)
   ·refine z7 rfl rfl c10<|z7 rfl rfl c10<|z7 rfl rfl c10<|zg rfl rfl<|zg rfl rfl<|z7 rfl rfl c10<|z7 rfl rfl c10<|z7 rfl rfl c10<|zg rfl rfl<|zg rfl rfl<|z7 rfl rfl c10<|z7 rfl rfl c10<|zg rfl rfl<|zg rfl rfl<|z7 rfl rfl c10<|z8 rfl rfl rfl<|z2 (zPt rfl c10 rfl)<|z2 (zPt rfl rfl rfl)<|z6<|yk rfl rfl<|zSr<|z2 (zAb rfl)<|z6<|zh<|zj (x := .bool _) rfl ?_
    rw [if_neg (by simp_all [okRune] <;> omega)] at hstep; exact jb hstep
   ·refine z8 rfl rfl c10<|z2 (zMi rfl)<|z8 rfl rfl c10<|z2 (Gv.geq rfl rfl)<|z8 rfl rfl c10<|z2 (zMb rfl)<|zo (s := 26) rfl (fun c11=>?_) (fun c11=>?_)
    ·refine z8 rfl rfl c11<|z2 (zMi rfl)<|z8 rfl rfl c11<|z2 (Gv.leq rfl rfl)<|z8 rfl rfl c10<|z2 (zPt rfl c11 rfl)<|z8 rfl rfl c10<|z2 (yo rfl)<|z8 rfl rfl c10<|z2 (zMb rfl)<|zo (s := 31) rfl (fun c12=>?_) (fun c12=>?_)
     ·refine z8 rfl rfl c12<|z2 (zMi rfl)<|z8 rfl rfl c12<|z2 (yi rfl rfl)<|z8 rfl rfl c10<|z2 (zPt rfl c12 rfl)<|z8 rfl rfl c10<|z2 (zMb rfl)<|zo (s := 35) rfl (fun c13=>?_) (fun c13=>?_)
      ·refine z8 rfl rfl c13<|z2 (zMi rfl)<|z8 rfl rfl c13<|z2 (yi rfl rfl)<|z8 rfl rfl c10<|z2 (zPt rfl c13 rfl)<|z8 rfl rfl rfl<|z2 (zPf rfl c10 rfl)<|z2 (zPt rfl rfl rfl)<|z6<|zr rfl (fun c14=>?_) (fun c14=>?_)
       ·refine zSr<|z2 (zAb rfl)<|z6<|zh<|zj (x := .bool _) rfl ?_
        rw [if_neg (by simp_all [okRune] <;> omega)] at hstep; exact jb hstep
       ·refine zd<|zRg<|z2 (zMi rfl)<|z2 (zAd rfl rfl)<|z2 (zAi rfl)<|z6 ?_
        exact ⟨(p + (Utf8.decode s p).2, n + 1), zR1, zR1, zLe, ⟨by rw [if_pos (by simp_all [okRune] <;> omega)] at hstep; exact hstep, by dsimp only; omega, by dsimp only; omega⟩, by dsimp only; omega⟩
      ·refine z7 rfl rfl c13<|z7 rfl rfl c13<|z8 rfl rfl c10<|z2 (zPf rfl c13 rfl)<|z8 rfl rfl rfl<|z2 (zPf rfl c10 rfl)<|z2 (zPt rfl rfl rfl)<|z6<|yl rfl rfl<|zd<|zRg<|z2 (zMi rfl)<|z2 (zAd rfl rfl)<|z2 (zAi rfl)<|z6 ?_
       exact ⟨(p + (Utf8.decode s p).2, n + 1), zR1, zR1, zLe, ⟨by rw [if_pos (by simp_all [okRune] <;> omega)] at hstep; exact hstep, by dsimp only; omega, by dsimp only; omega⟩, by dsimp only; omega⟩
     ·refine z7 rfl rfl c12<|z7 rfl rfl c12<|z8 rfl rfl c10<|z2 (zPf rfl c12 rfl)<|z8 rfl rfl c10<|z2 (zMb rfl)<|z7 rfl rfl rfl<|z7 rfl rfl rfl<|z8 rfl rfl c10<|z2 (zPf rfl rfl rfl)<|z8 rfl rfl rfl<|z2 (zPf rfl c10 rfl)<|z2 (zPt rfl rfl rfl)<|z6<|yl rfl rfl<|zd<|zRg<|z2 (zMi rfl)<|z2 (zAd rfl rfl)<|z2 (zAi rfl)<|z6 ?_
      exact ⟨(p + (Utf8.decode s p).2, n + 1), zR1, zR1, zLe, ⟨by rw [if_pos (by simp_all [okRune] <;> omega)] at hstep; exact hstep, by dsimp only; omega, by dsimp only; omega⟩, by dsimp only; omega⟩
    ·refine z7 rfl rfl c11<|z7 rfl rfl c11<|z8 rfl rfl c10<|z2 (zPf rfl c11 rfl)<|z8 rfl rfl c10<|z2 (yo rfl)<|z8 rfl rfl c10<|z2 (zMb rfl)<|z8 rfl rfl rfl<|z2 (zMi rfl)<|z8 rfl rfl rfl<|z2 (yi rfl rfl)<|z8 rfl rfl c10<|z2 (zPt rfl rfl rfl)<|z8 rfl rfl c10<|z2 (zMb rfl)<|zo (s := 35) rfl (fun c15=>?_) (fun c15=>?_)
     ·refine z8 rfl rfl c15<|z2 (zMi rfl)<|z8 rfl rfl c15<|z2 (yi rfl rfl)<|z8 rfl rfl c10<|z2 (zPt rfl c15 rfl)<|z8 rfl rfl rfl<|z2 (zPf rfl c10 rfl)<|z2 (zPt rfl rfl rfl)<|z6<|zr rfl (fun c16=>?_) (fun c16=>?_)
      ·refine zSr<|z2 (zAb rfl)<|z6<|zh<|zj (x := .bool _) rfl ?_
       rw [if_neg (by simp_all [okRune] <;> omega)] at hstep; exact jb hstep
      ·refine zd<|zRg<|z2 (zMi rfl)<|z2 (zAd rfl rfl)<|z2 (zAi rfl)<|z6 ?_
       exact ⟨(p + (Utf8.decode s p).2, n + 1), zR1, zR1, zLe, ⟨by rw [if_pos (by simp_all [okRune] <;> omega)] at hstep; exact hstep, by dsimp only; omega, by dsimp only; omega⟩, by dsimp only; omega⟩
     ·refine z7 rfl rfl c15<|z7 rfl rfl c15<|z8 rfl rfl c10<|z2 (zPf rfl c15 rfl)<|z8 rfl rfl rfl<|z2 (zPf rfl c10 rfl)<|z2 (zPt rfl rfl rfl)<|z6<|yl rfl rfl<|zd<|zRg<|z2 (zMi rfl)<|z2 (zAd rfl rfl)<|z2 (zAi rfl)<|z6 ?_
      exact ⟨(p + (Utf8.decode s p).2, n + 1), zR1, zR1, zLe, ⟨by rw [if_pos (by simp_all [okRune] <;> omega)] at hstep; exact hstep, by dsimp only; omega, by dsimp only; omega⟩, by dsimp only; omega⟩
 ·rw [nameFrom, dif_neg hlt] at hp
  refine zSr<|AOps.nextTover rfl .head hlt<|z2 (zXb rfl rfl)<|z6<|za<|yl rfl rfl<|zx<|zSr<|z2 (zMi rfl)<|z2 (Gv.geq rfl rfl)<|z2 (zMb rfl)<|zo (s := 45) rfl (fun c17=>?_) (fun c17=>?_)
  ·refine z8 rfl rfl c17<|z2 (zMi rfl)<|z8 rfl rfl c17<|z2 (Gv.leq rfl rfl)<|z2 (zPt rfl c17 rfl)<|z2 (zAb rfl)<|z6<|zh<|zj (x := .bool _) rfl ?_
   rw [← hp]; exact jb (by simp_all <;> (intros; omega))
  ·refine z7 rfl rfl c17<|z7 rfl rfl c17<|z2 (zPf rfl c17 rfl)<|z2 (zAb rfl)<|z6<|zh<|zj (x := .bool _) rfl ?_
   rw [← hp]; exact jb (by simp_all <;> (intros; omega))
theorem rows_spec : AFun prog E 102 [] (.fro 3 (kindT.map encK)) := by
 refine zn func102 rfl (by decide) rfl<|zSr<|z2 (zAr rfl)<|z6<|zSr<|z2 (y8 (cps := [(0, [_]), (1, [_]), (2, [_])]) (rs := [_, _, _]) pl170 rfl rfl rfl)<|z2 (y8 (cps := [(0, [_]), (1, [_]), (2, [_])]) (rs := [_, _, _]) pl170 rfl rfl rfl)<|z2 (y8 (cps := [(0, [_]), (1, [_]), (2, [_])]) (rs := [_, _, _]) pl170 rfl rfl rfl)<|z2 (y8 (cps := [(0, [_]), (1, [_]), (2, [_])]) (rs := [_, _, _]) pl170 rfl rfl rfl)<|z2 (y8 (cps := [(0, [_]), (1, [_]), (2, [_])]) (rs := [_, _, _]) pl170 rfl rfl rfl)<|z2 (y8 (cps := [(0, [_]), (1, [_]), (2, [_])]) (rs := [_, _, _]) pl170 rfl rfl rfl)<|z2 (y8 (cps := [(0, [_]), (1, [_]), (2, [_])]) (rs := [_, _, _]) pl170 rfl rfl rfl)<|z2 (y8 (cps := [(0, [_]), (1, [_]), (2, [_])]) (rs := [_, _, _]) pl170 rfl rfl rfl)<|z2 (y8 (cps := [(0, [_]), (1, [_]), (2, [_])]) (rs := [_, _, _]) pl170 rfl rfl rfl)<|z2 (y8 (cps := [(0, [_]), (1, [_]), (2, [_])]) (rs := [_, _, _]) pl170 rfl rfl rfl)<|z2 (y8 (cps := [(0, [_]), (1, [_]), (2, [_])]) (rs := [_, _, _]) pl170 rfl rfl rfl)<|z2 (y8 (cps := [(0, [_]), (1, [_]), (2, [_])]) (rs := [_, _, _]) pl170 rfl rfl rfl)<|z2 (y8 (cps := [(0, [_]), (1, [_]), (2, [_])]) (rs := [_, _, _]) pl170 rfl rfl rfl)<|z2 (y8 (cps := [(0, [_]), (1, [_]), (2, [_])]) (rs := [_, _, _]) pl170 rfl rfl rfl)<|z2 (y8 (cps := [(0, [_]), (1, [_]), (2, [_])]) (rs := [_, _, _]) pl170 rfl rfl rfl)<|z2 (y8 (cps := [(0, [_]), (1, [_]), (2, [_])]) (rs := [_, _, _]) pl170 rfl rfl rfl)<|z2 (y8 (cps := [(0, [_]), (1, [_]), (2, [_])]) (rs := [_, _, _]) pl170 rfl rfl rfl)<|z2 (y8 (cps := [(0, [_]), (1, [_]), (2, [_])]) (rs := [_, _, _]) pl170 rfl rfl rfl)<|z2 (y8 (cps := [(0, [_]), (1, [_]), (2, [_])]) (rs := [_, _, _]) pl170 rfl rfl rfl)<|z2 (y8 (cps := [(0, [_]), (1, [_]), (2, [_])]) (rs := [_, _, _]) pl170 rfl rfl rfl)<|z2 (y8 (cps := [(0, [_]), (1, [_]), (2, [_])]) (rs := [_, _, _]) pl170 rfl rfl rfl)<|z2 (y8 (cps := [(0, [_]), (1, [_]), (2, [_])]) (rs := [_, _, _]) pl170 rfl rfl rfl)<|z2 (y8 (cps := [(0, [_]), (1, [_]), (2, [_])]) (rs := [_, _, _]) pl170 rfl rfl rfl)<|z2 (y8 (cps := [(0, [_]), (1, [_]), (2, [_])]) (rs := [_, _, _]) pl170 rfl rfl rfl)<|z2 (y8 (cps := [(0, [_]), (1, [_]), (2, [_])]) (rs := [_, _, _]) pl170 rfl rfl rfl)<|z2 (y8 (cps := [(0, [_]), (1, [_]), (2, [_])]) (rs := [_, _, _]) pl170 rfl rfl rfl)<|z2 (y8 (cps := [(0, [_]), (1, [_]), (2, [_])]) (rs := [_, _, _]) pl170 rfl rfl rfl)<|zt (rows := [[_, _, _], [_, _, _], [_, _, _], [_, _, _], [_, _, _], [_, _, _], [_, _, _], [_, _, _], [_, _, _], [_, _, _], [_, _, _], [_, _, _], [_, _, _], [_, _, _], [_, _, _], [_, _, _], [_, _, _], [_, _, _], [_, _, _], [_, _, _], [_, _, _], [_, _, _], [_, _, _], [_, _, _], [_, _, _], [_, _, _], [_, _, _]]) ps171_27 rfl rfl rfl rfl rfl<|z2 (zAf rfl)<|z6<|zh<|zj (x := .fro _ _) rfl ?_
 rfl
theorem in_spec (k n : Int) : AFun prog E 158 [.int .i64 k, .int .i64 n] (.bool (decide (0 ≤ k) && decide (k < n))) := by
 refine zn func158 rfl (by decide) rfl<|zSr<|z2 (zAb rfl)<|z6<|zSr<|z2 (zMi rfl)<|z2 (Gv.geq rfl rfl)<|z2 (zMb rfl)<|zo (s := 7) rfl (fun c18=>?_) (fun c18=>?_)
 ·refine z8 rfl rfl c18<|z2 (zMi rfl)<|z8 rfl rfl c18<|z2 (zMi rfl)<|z8 rfl rfl c18<|z2 (yc rfl rfl)<|z2 (zPt rfl c18 rfl)<|z2 (zAb rfl)<|z6<|zh<|zj (x := .bool _) rfl ?_
  exact jb (by simp_all <;> omega)
 ·refine z7 rfl rfl c18<|z7 rfl rfl c18<|z7 rfl rfl c18<|z2 (zPf rfl c18 rfl)<|z2 (zAb rfl)<|z6<|zh<|zj (x := .bool _) rfl ?_
  exact jb (by simp_all <;> omega)
def strL (l : List UInt8) : ByteArray := ⟨l.toArray⟩
end Go.Proofs.YtiojekbkamegdaaGreatDoor
