/- The document's numbering: what is put for another one, what is found, all of it. Of programs that are little. -/
import Derived.Test.YtiojekbkamegdaaGreatDoorJi
import Derived.Test.YtiojekbkamegdaaGreatDoorJo
import Derived.Test.YtiojekbkamegdaaGreatDoorJq
set_option linter.unusedVariables false
set_option linter.unusedSimpArgs false
set_option linter.unusedSectionVars false
namespace Go.Proofs.YtiojekbkamegdaaGreatDoor
open Go.Proofs.Tryz
open Go.Proofs Go.Lib Go.Shelf Go.RowKit
variable {E : World}
set_option maxRecDepth 20000
def eqK (l m : List Int) (g : Nat → Nat) (k : Nat) : Bool := (List.range k).all fun i => decide ((l[i]?).getD 0 = (m[g i]?).getD 0)
theorem eqK_succ (l m : List Int) (g : Nat → Nat) (k : Nat) : eqK l m g (k + 1) = (eqK l m g k && decide ((l[k]?).getD 0 = (m[g k]?).getD 0)) := by
 unfold eqK; rw [List.range_succ, List.all_append]; simp
theorem eqK_all {l m : List Int} (h : l.length = m.length) : eqK l m id l.length = decide (l = m) := by
 rw [Bool.eq_iff_iff, qz]
 unfold eqK
 rw [qy]
 constructor
 ·intro h1
  refine List.ext_getElem h fun i a b => ?_
  have := h1 i (List.mem_range.2 a)
  simpa [qj a, qj b] using this
 ·rintro rfl i _; simp
theorem eqK_two {l m : List Int} (hl : l.length = 2) (hm : m.length = 2) : eqK l m (fun i => 1 - i) 2 = decide (l = m.reverse) := by
 match l, m, hl, hm with
 | [a, b], [c, d], _, _ =>
  rw [Bool.eq_iff_iff, qz]
  unfold eqK
  simp [List.range_succ]
theorem nT {p : Prop} [Decidable p] (h : (!decide p) = true) : ¬ p := by simpa using h
theorem nF {p : Prop} [Decidable p] (h : (!decide p) = false) : p := by simpa using h
theorem get0D {l : List Int} {k : Nat} (h : k < l.length) : l[k]? = some ((l[k]?).getD 0) := by rw [qj h]; rfl
set_option maxHeartbeats 16000000 in
theorem same31_spec (x y : PInst) (hx : x.args.length ≤ 1000) (hy : y.args.length ≤ 1000) : AFun prog E 98 [.agg (encInst x), .agg (encInst y)] (.bool (sameI x y)) := by
 have no : ¬ (x.op = y.op ∧ x.num = y.num ∧ x.args.length = y.args.length ∧ cntB x.op = true) → sameI x y = false := fun h => by
  cases hs : sameI x y with
  | false => rfl
  | true =>
   obtain ⟨h1, ⟨h2, h3⟩, h4⟩ := sameI_iff.1 hs
   refine absurd ⟨h2, h3, ?_, h1⟩ h
   rcases h4 with h4 | ⟨_, _, h4⟩ <;> rw [h4]
   exact List.length_reverse
 refine zn func98 rfl (by decide) rfl<|zSr<|yd (cs := _) rfl rfl rfl<|yd (cs := _) rfl rfl rfl<|z2 (zAb rfl)<|z6<|za<|zSr<|z2 (zFF underlying61 rfl sizeOf59 rfl rfl)<|z2 (zLi isAgg59 rfl)<|z2 (zFF underlying61 rfl sizeOf59 rfl rfl)<|z2 (zLi isAgg59 rfl)<|z2 (yi rfl rfl)<|z2 (zMb rfl)<|zo (s := 14) rfl (fun c1=>?_) (fun c1=>?_)
 ·refine z7 rfl rfl c1<|z7 rfl rfl c1<|z7 rfl rfl c1<|z7 rfl rfl c1<|z7 rfl rfl c1<|z2 (zPt rfl c1 rfl)<|z2 (zMb rfl)<|z7 rfl rfl rfl<|z7 rfl rfl rfl<|z7 rfl rfl rfl<|z7 rfl rfl rfl<|z7 rfl rfl rfl<|z7 rfl rfl rfl<|z7 rfl rfl rfl<|z2 (zPt rfl rfl rfl)<|z2 (zMb rfl)<|z7 rfl rfl rfl<|z7 rfl rfl rfl<|z7 rfl rfl rfl<|z2 (zPt rfl rfl rfl)<|z2 (zMb rfl)<|z7 rfl rfl rfl<|z7 rfl rfl rfl<|z7 rfl rfl rfl<|z2 (zPt rfl rfl rfl)<|z6<|yk rfl rfl<|zSr<|z2 (zAb rfl)<|z6<|zh<|zj (x := .bool _) rfl ?_
  rw [no (fun h => by simp [h.1] at c1)]
 ·refine z8 rfl rfl c1<|z2 (zFF underlying61 rfl sizeOf2 rfl rfl)<|z8 rfl rfl c1<|z2 (zLi isAgg2 rfl)<|z8 rfl rfl c1<|z2 (zFF underlying61 rfl sizeOf2 rfl rfl)<|z8 rfl rfl c1<|z2 (zLi isAgg2 rfl)<|z8 rfl rfl c1<|z2 (yi rfl rfl)<|z2 (zPf rfl c1 rfl)<|z2 (zMb rfl)<|zo (s := 21) rfl (fun c2=>?_) (fun c2=>?_)
  ·refine z7 rfl rfl c2<|z7 rfl rfl c2<|z7 rfl rfl c2<|z7 rfl rfl c2<|z7 rfl rfl c2<|z7 rfl rfl c2<|z7 rfl rfl c2<|z2 (zPt rfl c2 rfl)<|z2 (zMb rfl)<|z7 rfl rfl rfl<|z7 rfl rfl rfl<|z7 rfl rfl rfl<|z2 (zPt rfl rfl rfl)<|z2 (zMb rfl)<|z7 rfl rfl rfl<|z7 rfl rfl rfl<|z7 rfl rfl rfl<|z2 (zPt rfl rfl rfl)<|z6<|yk rfl rfl<|zSr<|z2 (zAb rfl)<|z6<|zh<|zj (x := .bool _) rfl ?_
   rw [no (fun h => by simp [h.2.1] at c2)]
  ·refine z8 rfl rfl c2<|z2 (zFF underlying61 rfl sizeOf23 rfl rfl)<|z8 rfl rfl c2<|z2 (zLf isAgg23 rfl)<|z8 rfl rfl c2<|z2 (zu underlying23 rfl)<|z8 rfl rfl c2<|z2 (zFF underlying61 rfl sizeOf23 rfl rfl)<|z8 rfl rfl c2<|z2 (zLf isAgg23 rfl)<|z8 rfl rfl c2<|z2 (zu underlying23 rfl)<|z8 rfl rfl c2<|z2 (yi rfl rfl)<|z2 (zPf rfl c2 rfl)<|z2 (zMb rfl)<|zo (s := 30) rfl (fun c3=>?_) (fun c3=>?_)
   ·refine z7 rfl rfl c3<|z7 rfl rfl c3<|z7 rfl rfl c3<|z2 (zPt rfl c3 rfl)<|z2 (zMb rfl)<|z7 rfl rfl rfl<|z7 rfl rfl rfl<|z7 rfl rfl rfl<|z2 (zPt rfl rfl rfl)<|z6<|yk rfl rfl<|zSr<|z2 (zAb rfl)<|z6<|zh<|zj (x := .bool _) rfl ?_
    rw [no (fun h => by simp [h.2.2.1] at c3)]
   ·refine z8 rfl rfl c3<|z2 (zFF underlying61 rfl sizeOf59 rfl rfl)<|z8 rfl rfl c3<|z2 (zLi isAgg59 rfl)<|z8 rfl rfl c3<|z2 (yc rfl rfl)<|z2 (zPf rfl c3 rfl)<|z2 (zMb rfl)<|zo (s := 35) rfl (fun c4=>?_) (fun c4=>?_)
    ·refine z7 rfl rfl c4<|z7 rfl rfl c4<|z7 rfl rfl c4<|z2 (zPt rfl c4 rfl)<|z6<|yk rfl rfl<|zSr<|z2 (zAb rfl)<|z6<|zh<|zj (x := .bool _) rfl ?_
     rw [no (fun h => by have := h.2.2.2; unfold cntB at this; simp at this c4; omega)]
    ·refine z8 rfl rfl c4<|z2 (zFF underlying61 rfl sizeOf59 rfl rfl)<|z8 rfl rfl c4<|z2 (zLi isAgg59 rfl)<|z8 rfl rfl c4<|z2 (q3 rfl rfl)<|z2 (zPf rfl c4 rfl)<|z6<|zr rfl (fun c5=>?_) (fun c5=>?_)
     ·refine zSr<|z2 (zAb rfl)<|z6<|zh<|zj (x := .bool _) rfl ?_
      rw [no (fun h => by have := h.2.2.2; unfold cntB at this; simp at this c5; omega)]
     ·have eop : x.op = y.op := by simpa using c1
      have enum : x.num = y.num := by simpa using c2
      have elen : x.args.length = y.args.length := by simp at c3; omega
      have hop : 0 ≤ x.op ∧ x.op ≤ 26 := by simp at c4 c5; omega
      refine zd<|zSr<|z2 (zAb rfl)<|z6<|za<|za<|yb (fun j => false) (by kernel_rfl) rfl (zq (.rest _))<|zTk 1 rfl (zFF underlying61 rfl sizeOf59 rfl rfl)<|zTk 2 rfl (zLi isAgg59 rfl)<|zOn 0 rfl<|zk (rows_spec) rfl<|z6<|zTk 3 rfl (zIM x.op.toNat underlying171 sizeOf170 rfl rfl (by omega) (kRow_get hop))<|zTk 4 rfl (zFF underlying170 rfl sizeOf9 rfl rfl)<|zTk 5 rfl (yv (c := .str _) isAgg9 rfl)<|zDn<|yp (γ := Bool) [2, 3] (fun t => [(5, .bool t)]) (fun t => []) (fun t => cntB x.op = true ∧ t = trnB x.op) ?_ (fun _ _ h => h) ?_
      ·refine zf<|za<|zSr<|z2 (qc rfl rfl)<|z2 (zAb rfl)<|z6<|zp rfl (fun w2=>?_) (fun w2=>?_)
       ·have e : x.op = 2 := (word_op hop 2 (by decide) rfl).1 w2
        refine zd<|yk rfl (qv w2)<|zRg<|z2 (zAb rfl)<|z6 ?_
        exact ⟨true, zR2, zR1, zLe, ⟨by rw [e]; decide, by rw [e]; decide⟩⟩
       ·have n2 : x.op ≠ 2 := fun e => w2 ((word_op hop 2 (by decide) rfl).2 e)
        refine zSr<|z2 (qc rfl rfl)<|z2 (zAb rfl)<|z6<|zp rfl (fun w4=>?_) (fun w4=>?_)
        ·have e : x.op = 4 := (word_op hop 4 (by decide) rfl).1 w4
         refine zd<|yk rfl (qv w4)<|zRg<|z2 (zAb rfl)<|z6 ?_
         exact ⟨true, zR2, zR1, zLe, ⟨by rw [e]; decide, by rw [e]; decide⟩⟩
        ·have n4 : x.op ≠ 4 := fun e => w4 ((word_op hop 4 (by decide) rfl).2 e)
         refine zSr<|z2 (qc rfl rfl)<|z2 (zAb rfl)<|z6<|zp rfl (fun w7=>?_) (fun w7=>?_)
         ·have e : x.op = 7 := (word_op hop 7 (by decide) rfl).1 w7
          refine zd<|yk rfl (qv w7)<|zRg<|z2 (zAb rfl)<|z6 ?_
          exact ⟨true, zR2, zR1, zLe, ⟨by rw [e]; decide, by rw [e]; decide⟩⟩
         ·have n7 : x.op ≠ 7 := fun e => w7 ((word_op hop 7 (by decide) rfl).2 e)
          refine zRg<|z2 (qc rfl rfl)<|z2 (zAb rfl)<|z6<|zp rfl (fun w11=>?_) (fun w11=>?_)
          ·have e : x.op = 11 := (word_op hop 11 (by decide) rfl).1 w11
           refine zRg<|z2 (zAb rfl)<|z6 ?_
           exact ⟨true, zR2, zR1, zLe, ⟨by rw [e]; decide, by rw [e]; decide⟩⟩
          ·have n11 : x.op ≠ 11 := fun e => w11 ((word_op hop 11 (by decide) rfl).2 e)
           refine za<|zSr<|z2 (qc rfl rfl)<|z2 (zAb rfl)<|z6<|zp rfl (fun w0=>?_) (fun w0=>?_)
           ·have e : x.op = 0 := (word_op hop 0 (by decide) rfl).1 w0
            refine zd<|yk rfl (qv w0)<|zd ?_
            exact ⟨false, zR2, zR1, zLe, ⟨by rw [e]; decide, by rw [e]; decide⟩⟩
           ·have n0 : x.op ≠ 0 := fun e => w0 ((word_op hop 0 (by decide) rfl).2 e)
            refine zSr<|z2 (qc rfl rfl)<|z2 (zAb rfl)<|z6<|zp rfl (fun w16=>?_) (fun w16=>?_)
            ·have e : x.op = 16 := (word_op hop 16 (by decide) rfl).1 w16
             refine zd<|yk rfl (qv w16)<|zd ?_
             exact ⟨false, zR2, zR1, zLe, ⟨by rw [e]; decide, by rw [e]; decide⟩⟩
            ·have n16 : x.op ≠ 16 := fun e => w16 ((word_op hop 16 (by decide) rfl).2 e)
             refine zSr<|z2 (qc rfl rfl)<|z2 (zAb rfl)<|z6<|zp rfl (fun w3=>?_) (fun w3=>?_)
             ·have e : x.op = 3 := (word_op hop 3 (by decide) rfl).1 w3
              refine zd<|yk rfl (qv w3)<|zd ?_
              exact ⟨false, zR2, zR1, zLe, ⟨by rw [e]; decide, by rw [e]; decide⟩⟩
             ·have n3 : x.op ≠ 3 := fun e => w3 ((word_op hop 3 (by decide) rfl).2 e)
              refine zSr<|z2 (qc rfl rfl)<|z2 (zAb rfl)<|z6<|zp rfl (fun w5=>?_) (fun w5=>?_)
              ·have e : x.op = 5 := (word_op hop 5 (by decide) rfl).1 w5
               refine zd<|yk rfl (qv w5)<|zd ?_
               exact ⟨false, zR2, zR1, zLe, ⟨by rw [e]; decide, by rw [e]; decide⟩⟩
              ·have n5 : x.op ≠ 5 := fun e => w5 ((word_op hop 5 (by decide) rfl).2 e)
               refine zSr<|z2 (qc rfl rfl)<|z2 (zAb rfl)<|z6<|zp rfl (fun w6=>?_) (fun w6=>?_)
               ·have e : x.op = 6 := (word_op hop 6 (by decide) rfl).1 w6
                refine zd<|yk rfl (qv w6)<|zd ?_
                exact ⟨false, zR2, zR1, zLe, ⟨by rw [e]; decide, by rw [e]; decide⟩⟩
               ·have n6 : x.op ≠ 6 := fun e => w6 ((word_op hop 6 (by decide) rfl).2 e)
                refine zSr<|z2 (qc rfl rfl)<|z2 (zAb rfl)<|z6<|zp rfl (fun w8=>?_) (fun w8=>?_)
                ·have e : x.op = 8 := (word_op hop 8 (by decide) rfl).1 w8
                 refine zd<|yk rfl (qv w8)<|zd ?_
                 exact ⟨false, zR2, zR1, zLe, ⟨by rw [e]; decide, by rw [e]; decide⟩⟩
                ·have n8 : x.op ≠ 8 := fun e => w8 ((word_op hop 8 (by decide) rfl).2 e)
                 refine zSr<|z2 (qc rfl rfl)<|z2 (zAb rfl)<|z6<|zp rfl (fun w9=>?_) (fun w9=>?_)
                 ·have e : x.op = 9 := (word_op hop 9 (by decide) rfl).1 w9
                  refine zd<|yk rfl (qv w9)<|zd ?_
                  exact ⟨false, zR2, zR1, zLe, ⟨by rw [e]; decide, by rw [e]; decide⟩⟩
                 ·have n9 : x.op ≠ 9 := fun e => w9 ((word_op hop 9 (by decide) rfl).2 e)
                  refine zSr<|z2 (qc rfl rfl)<|z2 (zAb rfl)<|z6<|zp rfl (fun w10=>?_) (fun w10=>?_)
                  ·have e : x.op = 10 := (word_op hop 10 (by decide) rfl).1 w10
                   refine zd<|yk rfl (qv w10)<|zd ?_
                   exact ⟨false, zR2, zR1, zLe, ⟨by rw [e]; decide, by rw [e]; decide⟩⟩
                  ·have n10 : x.op ≠ 10 := fun e => w10 ((word_op hop 10 (by decide) rfl).2 e)
                   refine zRg<|z2 (qc rfl rfl)<|z2 (zAb rfl)<|z6<|zp rfl (fun w12=>?_) (fun w12=>?_)
                   ·have e : x.op = 12 := (word_op hop 12 (by decide) rfl).1 w12
                    refine zd ?_
                    exact ⟨false, zR2, zR1, zLe, ⟨by rw [e]; decide, by rw [e]; decide⟩⟩
                   ·have n12 : x.op ≠ 12 := fun e => w12 ((word_op hop 12 (by decide) rfl).2 e)
                    refine zSr<|z2 (zAb rfl)<|z6<|zh<|zj (x := .bool _) rfl ?_
                    rw [no (fun h => by have := h.2.2.2; unfold cntB at this; simp at this; omega)]
      ·rintro t ⟨hc, ht⟩
       refine za<|yp (γ := Bool) [2, 3] (fun z => [(6, .bool true), (7, .bool z)]) (fun z => []) (fun z => z = (trnB x.op && decide (x.args.length = 2))) ?_ (fun _ _ h => h) ?_
       ·refine yb (fun j => false) (by kernel_rfl) rfl (zq (.rest _))<|zTk 0 rfl (zMb rfl)<|zTk 1 rfl (zMb rfl)<|AAny.case (s := 62) rfl (fun ct=>?_) (fun ct=>?_)
        ·refine zTt 2 rfl rfl rfl ct (zFF underlying61 rfl sizeOf23 rfl rfl)<|zTt 3 rfl rfl rfl ct (zLf isAgg23 rfl)<|zTt 4 rfl rfl rfl ct (zu underlying23 rfl)<|zTt 5 rfl rfl rfl ct (y9 rfl rfl)<|zTk 6 rfl (zPt rfl ct rfl)<|zTk 7 rfl (zAb rfl)<|zTk 8 rfl (zAb rfl)<|zDn ?_
         exact ⟨_, zR2, zR2, zLe, by rw [← ht, ct]; simp; omega⟩
        ·refine zTf 2 rfl rfl rfl ct<|zTf 3 rfl rfl rfl ct<|zTf 4 rfl rfl rfl ct<|zTf 5 rfl rfl rfl ct<|zTk 6 rfl (zPf rfl ct rfl)<|zTk 7 rfl (zAb rfl)<|zTk 8 rfl (zAb rfl)<|zDn ?_
         exact ⟨_, zR2, zR2, zLe, by rw [← ht, ct]; simp⟩
       ·rintro z hz
        refine za<|zSr<|z2 (zFF underlying61 rfl sizeOf23 rfl rfl)<|z2 (zLf isAgg23 rfl)<|z2 (zu underlying23 rfl)<|z2 (zMi rfl)<|z6<|zf<|zz (γ := Nat) [2, 3, 70] (fun g => [(71, .int .i64 g), (6, .bool (eqK x.args y.args id g)), (7, .bool (z && eqK x.args y.args (fun i => 1 - i) g))]) (fun g => []) (fun g => g ≤ x.args.length) (fun g => x.args.length - g) 0 ⟨rfl, rfl, by show AV.bool _ = AV.bool _; rw [show eqK x.args y.args (fun i => 1 - i) 0 = true from rfl, Bool.and_true], trivial⟩ zLe (qm _) ?_
        rintro k hk
        refine zSr<|z2 (yc rfl rfl)<|z6<|za<|zp rfl (fun ck=>?_) (fun ck=>?_)
        ·have hk2 : k < x.args.length := by omega
         refine zd<|za<|zf<|zSr<|z2 (zMi rfl)<|z2 (zAi rfl)<|z6<|za<|za<|yb (fun j => false) (by kernel_rfl) rfl (zq (.rest _))<|zTk 0 rfl (zFF underlying61 rfl sizeOf23 rfl rfl)<|zTk 1 rfl (zLf isAgg23 rfl)<|zTk 2 rfl (zMi rfl)<|zTk 3 rfl (zIM k underlying23 sizeOf3 rfl rfl rfl (get0D hk2))<|zTk 4 rfl (zLi isAgg3 rfl)<|zTk 5 rfl (zFF underlying61 rfl sizeOf23 rfl rfl)<|zTk 6 rfl (zLf isAgg23 rfl)<|zTk 7 rfl (zMi rfl)<|zTk 8 rfl (zIM k underlying23 sizeOf3 rfl rfl rfl (get0D (by omega)))<|zTk 9 rfl (zLi isAgg3 rfl)<|zTk 10 rfl (yi rfl rfl)<|zDn<|yp (γ := Bool) [2, 3, 7, 8, 70, 71] (fun a => [(6, .bool a)]) (fun a => []) (fun a => a = eqK x.args y.args id (k + 1)) ?_ (fun _ _ h => h) ?_
         ·refine zr rfl (fun ca=>?_) (fun ca=>?_)
          ·have ca := nT ca
           refine zRg<|z2 (zAb rfl)<|z6 ?_
           exact ⟨_, zR6, zR1, zLe, by rw [eqK_succ, show decide ((x.args[k]?).getD 0 = (y.args[id k]?).getD 0) = false from qw ca, Bool.and_false]⟩
          ·have ca := nF ca
           refine zd ?_
           exact ⟨_, zR6, zR1, zLe, by rw [eqK_succ, show decide ((x.args[k]?).getD 0 = (y.args[id k]?).getD 0) = true from qv ca, Bool.and_true]⟩
         ·rintro a ha
          subst ha
          refine za<|yb (fun j => false) (by kernel_rfl) rfl (zq (.rest _))<|zTk 0 rfl (zMb rfl)<|zTk 1 rfl (zMb rfl)<|AAny.case (s := 86) rfl (fun cz=>?_) (fun cz=>?_)
          ·have hzt : z = true := by simp at cz; exact cz.1
           have h2 : x.args.length = 2 := by rw [hzt] at hz; simp at hz; exact hz.2
           refine zTt 2 rfl rfl rfl cz (zFF underlying61 rfl sizeOf23 rfl rfl)<|zTt 3 rfl rfl rfl cz (zLf isAgg23 rfl)<|zTt 4 rfl rfl rfl cz (zMi rfl)<|zTt 5 rfl rfl rfl cz (zIM k underlying23 sizeOf3 rfl rfl rfl (get0D hk2))<|zTt 6 rfl rfl rfl cz (zLi isAgg3 rfl)<|zTt 7 rfl rfl rfl cz (zFF underlying61 rfl sizeOf23 rfl rfl)<|zTt 8 rfl rfl rfl cz (zLf isAgg23 rfl)<|zTt 9 rfl rfl rfl cz (zMi rfl)<|zTt 10 rfl rfl rfl cz (Gv.sub rfl rfl (by unfold I64; omega))<|zTt 11 rfl rfl rfl cz (zIM (1 - k) underlying23 sizeOf3 rfl rfl (by omega) (get0D (by omega)))<|zTt 12 rfl rfl rfl cz (zLi isAgg3 rfl)<|zTt 13 rfl rfl rfl cz (yi rfl rfl)<|zTk 14 rfl (zPt rfl cz rfl)<|zDn<|zr rfl (fun cc=>?_) (fun cc=>?_)
           ·have cc := nT cc
            refine zRg<|z2 (zAb rfl)<|z6<|zRg<|z2 (zAd rfl rfl)<|z2 (zMi rfl)<|z6 ?_
            exact ⟨k + 1, zR3, ⟨rfl, rfl, by show AV.bool _ = AV.bool _; rw [eqK_succ, qw cc, Bool.and_false, Bool.and_false], trivial⟩, zLe, hk2, by omega⟩
           ·have cc := nF cc
            refine zd<|zRg<|z2 (zAd rfl rfl)<|z2 (zMi rfl)<|z6 ?_
            exact ⟨k + 1, zR3, ⟨rfl, rfl, by show AV.bool _ = AV.bool _; rw [eqK_succ, qv cc, Bool.and_true], trivial⟩, zLe, hk2, by omega⟩
          ·refine zTf 2 rfl rfl rfl cz<|zTf 3 rfl rfl rfl cz<|zTf 4 rfl rfl rfl cz<|zTf 5 rfl rfl rfl cz<|zTf 6 rfl rfl rfl cz<|zTf 7 rfl rfl rfl cz<|zTf 8 rfl rfl rfl cz<|zTf 9 rfl rfl rfl cz<|zTf 10 rfl rfl rfl cz<|zTf 11 rfl rfl rfl cz<|zTf 12 rfl rfl rfl cz<|zTf 13 rfl rfl rfl cz<|zTk 14 rfl (zPf rfl cz rfl)<|zDn<|yl rfl rfl<|zd<|zRg<|z2 (zAd rfl rfl)<|z2 (zMi rfl)<|z6 ?_
           exact ⟨k + 1, zR3, ⟨rfl, rfl, by show AV.bool _ = AV.bool _; rw [eqK_succ, ← Bool.and_assoc, show (z && eqK x.args y.args (fun i => 1 - i) k) = false from cz, Bool.false_and], trivial⟩, zLe, hk2, by omega⟩
        ·obtain rfl : k = x.args.length := by omega
         have key : sameI x y = (eqK x.args y.args id x.args.length || (z && eqK x.args y.args (fun i => 1 - i) x.args.length)) := by
          rw [eqK_all elen]
          unfold sameI
          rw [hc, qv (⟨eop, enum⟩ : x.op = y.op ∧ x.num = y.num), Bool.true_and, Bool.true_and, hz]
          congr 1
          by_cases h2 : x.args.length = 2
          ·rw [h2, eqK_two h2 (by omega)]; simp
          ·simp [h2]
         refine zx<|zSr<|z2 (zMb rfl)<|z2 (zMb rfl)<|zo (s := 102) rfl (fun cs=>?_) (fun cs=>?_)
         ·refine z7 rfl rfl cs<|z2 (zPt rfl cs rfl)<|z2 (zAb rfl)<|z6<|zh<|zj (x := .bool _) rfl ?_
          rw [key, show eqK x.args y.args id x.args.length = true from cs, Bool.true_or]
         ·refine z8 rfl rfl cs<|z2 (zMb rfl)<|z2 (zPf rfl cs rfl)<|z2 (zAb rfl)<|z6<|zh<|zj (x := .bool _) rfl ?_
          rw [key, show eqK x.args y.args id x.args.length = false from cs, Bool.false_or]
theorem put19_spec (l : List Int) (x y : Int) (hl : l.length ≤ 1000) : AFun prog E 99 [.fro 1 (l.map encI), .int .i64 x, .int .i64 y] (.fro 1 ((l.map (putT x y)).map encI)) := by
 refine zn func99 rfl (by decide) rfl<|zSr<|z2 (zAr rfl)<|z6<|zSr<|z2 (zAr rfl)<|z6<|za<|zSr<|z2 (zMf rfl)<|z2 (zu underlying23 rfl)<|z2 (zMi rfl)<|z6<|adopt_wp (t := 7) (k := 1) (T := 3) rfl<|fun i7 => zf<|zz (γ := Nat × Nat) [1, 2, 10, 11] (fun g => [(12, .int .i64 g.1), (7, .own g.2 g.1)]) (fun g => [(g.2, .grow 1 3 (cI ((l.take g.1).map (putT x y))))]) (fun g => g.1 ≤ l.length) (fun g => l.length - g.1) (0, i7) zR2 zLe (qm _) ?_
 rintro ⟨k, i⟩ hk
 try dsimp only at *
 refine zSr<|z2 (yc rfl rfl)<|z6<|za<|zp rfl (fun ck=>?_) (fun ck=>?_)
 ·have hk2 : k < l.length := by omega
  have hlen : (cI ((l.take k).map (putT x y))).length = k * 1 := by rw [cI_len, qq, qu, Nat.min_eq_left hk]; omega
  have hp : cI ((l.take k).map (putT x y)) ++ [AV.int .i64 (putT x y l[k])] = cI ((l.take (k + 1)).map (putT x y)) := by
   rw [qk hk2, qt, ← cI_app]; rfl
  refine zd<|za<|zf<|zSr<|z2 (zIM k underlying23 sizeOf3 rfl rfl rfl (qj hk2))<|z2 (zLi isAgg3 rfl)<|z2 (zAi rfl)<|z6<|za<|zSr<|z2 (zMi rfl)<|z2 (zMi rfl)<|z2 (y9 rfl rfl)<|z6<|yp (γ := Int) [1, 2, 7, 10, 11, 12] (fun v => [(9, .int .i64 v)]) (fun v => [(i, .grow 1 3 (cI ((l.take k).map (putT x y))))]) (fun v => v = putT x y l[k]) ?_ (fun _ _ h => h) ?_
  ·refine zp rfl (fun cv=>?_) (fun cv=>?_)
   ·refine zRg<|z2 (zMi rfl)<|z2 (zAi rfl)<|z6 ?_
    exact ⟨_, zR6, zR1, zLe, by unfold putT; rw [if_pos cv]⟩
   ·refine zd ?_
    exact ⟨_, zR6, zR1, zLe, by unfold putT; rw [if_neg cv]⟩
  ·rintro v hv
   subst hv
   refine zRg<|z2 (zMo rfl)<|z2 (zMi rfl)<|zt (rows := [[_]]) ps23_1 rfl rfl rfl rfl rfl<|yn (k := 1) underlying23 type3 rfl rfl rfl rfl rfl (fun _ => .head) hlen (by decide) rfl (by show (_ + _) * 8 ≤ _; simp <;> omega) (by simp <;> omega)<|fun i23 => z2 (zAo rfl)<|z6<|zRg<|z2 (zAd rfl rfl)<|z2 (zMi rfl)<|z6 ?_
   exact ⟨(k + 1, i23), zR4, zR2, ⟨_, (.refl _), by rw [← hp]; rfl⟩, hk2, by dsimp only; omega⟩
 ·obtain rfl : k = l.length := by omega
  rw [qo]
  refine zy (GStep.knowI (t := 7) rfl .head (by simp))<|zx<|zSr<|z2 (zMf rfl)<|z2 (zAf rfl)<|z6<|zh<|zj (x := .fro _ _) rfl ?_
  rfl
end Go.Proofs.YtiojekbkamegdaaGreatDoor
namespace Go.Proofs.YtiojekbkamegdaaGreatDoor
open Go.Proofs.Tryz
open Go.Proofs Go.Lib Go.Shelf Go.RowKit
variable {E : World}
set_option maxRecDepth 20000
def phX (x y : Int) (l : List PPhi) : List PPhi := (l.filter fun p => decide (p.dst ≠ x)).map (numPh (putT x y))
def inX (x y : Int) (l : List PInst) : List PInst := (l.filter fun z => decide (z.dst ≠ x)).map (mapI (putT x y))
set_option maxHeartbeats 8000000 in
theorem Put19_spec (g : PFunc) (hf : small g) (x y : Int) : AFun prog E 48 [.agg (encF g), .int .i64 x, .int .i64 y] (.agg (encF (putF g x y))) := by
 obtain ⟨hf1, hf2, hf3, hf4, hf5⟩ := hf
 refine zn func48 rfl (by decide) rfl<|zSr<|yd (cs := _) rfl rfl rfl<|y4 (cs := [.raw (.slice none 0 0), .raw (.slice none 0 0), .raw (.slice none 0 0)]) zeroValue26 rfl rfl<|fun i6 => z6<|zSr<|z2 (zFF underlying26 rfl sizeOf22 rfl rfl)<|z2 (zLf isAgg22 rfl)<|z2 (zFF underlying26 rfl sizeOf23 rfl rfl)<|z2 (zLf isAgg23 rfl)<|z2 (y8 (cps := [(0, [_]), (1, [_])]) (rs := [_, _, .raw (.slice none 0 0)]) pl26 rfl rfl rfl)<|y4 (cs := [.raw (.slice none 0 0), .raw (.slice none 0 0), .raw (.slice none 0 0)]) zeroValue26 rfl rfl<|fun i7 => zw sizeOf26 rfl rfl rfl rfl rfl rfl .head rfl<|z6<|adoptC_wp (off := 2) (k := 7) (T := 58) (fun _ => .head) rfl<|fun ib => za<|zSr<|z2 (zFF underlying26 rfl sizeOf24 rfl rfl)<|z2 (zLf isAgg24 rfl)<|z2 (zu underlying24 rfl)<|z2 (zMi rfl)<|z6<|zf<|zz (γ := Nat × Nat) [1, 2, 6, 7, 21, 22] (fun g1 => [(23, .int .i64 g1.1)]) (fun g1 => [(g1.2, .grow 7 58 (((g.blocks.take g1.1).map (putB x y)).map encBlk).flatten), (i7, .cells 26 [.fro 2 (g.vars.map encVar), .fro 1 (g.params.map encI), .own g1.2 g1.1]), (i6, .cells 26 [.raw (.slice none 0 0), .raw (.slice none 0 0), .raw (.slice none 0 0)])]) (fun g1 => g1.1 ≤ g.blocks.length) (fun g1 => g.blocks.length - g1.1) (0, ib) zR1 zLe (qm _) ?_
 rintro ⟨k, ib⟩ hk
 try dsimp only at *
 refine zSr<|z2 (yc rfl rfl)<|z6<|za<|zp rfl (fun ck=>?_) (fun ck=>?_)
 ·have hk2 : k < g.blocks.length := by omega
  obtain ⟨b, hb⟩ : ∃ b, g.blocks[k] = b := ⟨_, rfl⟩
  have hget : g.blocks[k]? = some b := by rw [qj hk2, hb]
  obtain ⟨hb0, hb1, hb2, hb3, hb4⟩ := hf5 b (hb ▸ qn hk2)
  refine zd<|za<|zf<|zSr<|z2 (zIM k underlying24 sizeOf58 rfl rfl rfl hget)<|z2 (zl isAgg58 sizeOf58 rfl rfl)<|y4 (cs := [.str ⟨#[]⟩, .raw (.slice none 0 0), .raw (.slice none 0 0), .int .i64 0, .int .i64 0, .int .i64 0, .int .i64 0]) zeroValue58 rfl rfl<|fun i9 => zw sizeOf58 rfl rfl rfl rfl rfl rfl .head rfl<|ze (yh (t := 9) rfl .head)<|z6<|zSr<|z2 (zFF underlying58 rfl sizeOf9 rfl rfl)<|z2 (yv (c := .str _) isAgg9 rfl)<|z2 (zFF underlying58 rfl sizeOf56 rfl rfl)<|z2 (zl isAgg56 sizeOf56 rfl rfl)<|z2 (y8 (cps := [(0, [_]), (3, [_, _, _, _])]) (rs := [_, .raw (.slice none 0 0), .raw (.slice none 0 0), _, _, _, _]) pl58 rfl rfl rfl)<|y4 (cs := [.str ⟨#[]⟩, .raw (.slice none 0 0), .raw (.slice none 0 0), .int .i64 0, .int .i64 0, .int .i64 0, .int .i64 0]) zeroValue58 rfl rfl<|fun i10 => zw sizeOf58 rfl rfl rfl rfl rfl rfl .head rfl<|z6<|za<|zSr<|z2 (zFF underlying58 rfl sizeOf51 rfl rfl)<|z2 (zLf isAgg51 rfl)<|z2 (zu underlying51 rfl)<|z2 (zMi rfl)<|z6<|adoptC_wp (off := 1) (k := 3) (T := 81) (fun _ => .head) rfl<|fun ip => zy (zb (zc .t1))<|zf<|zz (γ := Nat × Nat) [1, 2, 6, 7, 9, 10, 21, 22, 23, 33, 34] (fun q => [(35, .int .i64 q.1)]) (fun q => [(i10, .cells 58 [.str b.name, .own q.2 (phX x y (b.phis.take q.1)).length, .raw (.slice none 0 0), .int .i64 b.term.kind, .int .i64 b.term.var, .int .i64 b.term.to0, .int .i64 b.term.to1]), (q.2, .grow 3 81 ((phX x y (b.phis.take q.1)).map encPhi).flatten), (ib, .grow 7 58 (((g.blocks.take k).map (putB x y)).map encBlk).flatten), (i7, .cells 26 [.fro 2 (g.vars.map encVar), .fro 1 (g.params.map encI), .own ib k]), (i6, .cells 26 [.raw (.slice none 0 0), .raw (.slice none 0 0), .raw (.slice none 0 0)])]) (fun q => q.1 ≤ b.phis.length) (fun q => b.phis.length - q.1) (0, ip) zR1 zLe (qm _) ?_
  rintro ⟨m, ip⟩ hm
  try dsimp only at *
  refine zSr<|z2 (yc rfl rfl)<|z6<|za<|zp rfl (fun cm=>?_) (fun cm=>?_)
  ·have hm2 : m < b.phis.length := by omega
   obtain ⟨hp1, hp2⟩ := hb3 _ (qn hm2)
   have hlm : (phX x y (b.phis.take m)).length ≤ m := fm_len
   refine zd<|za<|zf<|zSr<|z2 (zIM m underlying51 sizeOf81 rfl rfl rfl (qj hm2))<|z2 (zl isAgg81 sizeOf81 rfl rfl)<|y4 (cs := [.int .i64 0, .raw (.slice none 0 0), .raw (.slice none 0 0)]) zeroValue81 rfl rfl<|fun i12 => zw sizeOf81 rfl rfl rfl rfl rfl rfl .head rfl<|ze (yh (t := 12) rfl .head)<|z6<|zSr<|z2 (zFF underlying81 rfl sizeOf3 rfl rfl)<|z2 (zLi isAgg3 rfl)<|z2 (zMi rfl)<|z2 (yi rfl rfl)<|z6<|zr rfl (fun cd=>?_) (fun cd=>?_)
   ·have cd := nT cd
    have hpu : phX x y (b.phis.take (m + 1)) = phX x y (b.phis.take m) ++ [numPh (putT x y) b.phis[m]] := fm_push hm2 (qv cd)
    refine yb (fun j => Nat.beq j 15) (by kernel_rfl) rfl (zq (.r (.rest _)))<|zTk 0 rfl (zi underlying58 rfl sizeOf51 (by decide) rfl rfl)<|zTk 1 rfl (zm (c := .own _ _) isAgg51 rfl ⟨_, .head⟩ rfl)<|zTk 2 rfl (zFF underlying81 rfl sizeOf3 rfl rfl)<|zTk 3 rfl (zLi isAgg3 rfl)<|zTk 4 rfl (zFF underlying81 rfl sizeOf23 rfl rfl)<|zTk 5 rfl (zLf isAgg23 rfl)<|zTk 6 rfl (zMi rfl)<|zTk 7 rfl (zMi rfl)<|zTk 9 rfl (zFF underlying81 rfl sizeOf23 rfl rfl)<|zTk 10 rfl (zLf isAgg23 rfl)<|zOn 8 rfl<|zk (put19_spec b.phis[m].args x y (by omega)) rfl<|z6<|zTk 11 rfl (y8 (cps := [(0, [_]), (1, [_]), (2, [_])]) (rs := [_, _, _]) pl81 rfl rfl rfl)<|zOn 12 rfl<|zt (rows := [[_, _, _]]) ps51_1 rfl rfl rfl rfl rfl<|z6<|zOn 13 rfl<|yn (k := 3) underlying51 type81 rfl rfl rfl rfl rfl (fun _ => .head) (grow_len (k := 3) (fun _ => rfl) _) (by decide) rfl (by show (_ + _) * 56 ≤ _; simp <;> omega) (by simp <;> omega)<|fun i56 => z6<|zTk 14 rfl (zi underlying58 rfl sizeOf51 (by decide) rfl rfl)<|yu<|q5 (i := 15) rfl (by kernel_rfl) (by kernel_rfl)<|yy (l := [_]) (new := [_, _, _, _, _, _, _]) sizeOf51 rfl rfl rfl rfl rfl rfl .head rfl rfl<|z6<|yz (by kernel_rfl)<|zRg<|z2 (zAd rfl rfl)<|z2 (zMi rfl)<|z6 ?_
    exact ⟨(m + 1, i56), zR11, zR1, ⟨_, (.refl _), by rw [hpu, qp, ← grow_push rfl]; rfl⟩, hm2, by dsimp only; omega⟩
   ·have cd := Classical.not_not.2 (nF cd)
    have hpu : phX x y (b.phis.take (m + 1)) = phX x y (b.phis.take m) := fm_same hm2 (qw cd)
    refine zd<|zRg<|z2 (zAd rfl rfl)<|z2 (zMi rfl)<|z6 ?_
    exact ⟨(m + 1, ip), zR11, zR1, ⟨_, (.refl _), by rw [hpu]⟩, hm2, by dsimp only; omega⟩
  ·obtain rfl : m = b.phis.length := by omega
   rw [qo]
   refine zx<|za<|zSr<|z2 (zFF underlying58 rfl sizeOf52 rfl rfl)<|z2 (zLf isAgg52 rfl)<|z2 (zu underlying52 rfl)<|z2 (zMi rfl)<|z6<|adoptC_wp (off := 2) (k := 4) (T := 61) (fun _ => .head) rfl<|fun ii => zf<|zz (γ := Nat × Nat) [1, 2, 6, 7, 9, 10, 21, 22, 23, 60, 61] (fun q => [(62, .int .i64 q.1)]) (fun q => [(q.2, .grow 4 61 ((inX x y (b.insts.take q.1)).map encInst).flatten), (i10, .cells 58 [.str b.name, .own ip (phX x y b.phis).length, .own q.2 (inX x y (b.insts.take q.1)).length, .int .i64 b.term.kind, .int .i64 b.term.var, .int .i64 b.term.to0, .int .i64 b.term.to1]), (ip, .grow 3 81 ((phX x y b.phis).map encPhi).flatten), (ib, .grow 7 58 (((g.blocks.take k).map (putB x y)).map encBlk).flatten), (i7, .cells 26 [.fro 2 (g.vars.map encVar), .fro 1 (g.params.map encI), .own ib k]), (i6, .cells 26 [.raw (.slice none 0 0), .raw (.slice none 0 0), .raw (.slice none 0 0)])]) (fun q => q.1 ≤ b.insts.length) (fun q => b.insts.length - q.1) (0, ii) zR1 zLe (qm _) ?_
   rintro ⟨m, ii⟩ hm
   try dsimp only at *
   refine zSr<|z2 (yc rfl rfl)<|z6<|za<|zp rfl (fun cm=>?_) (fun cm=>?_)
   ·have hm2 : m < b.insts.length := by omega
    have hp1 := hb4 _ (qn hm2)
    have hlm : (inX x y (b.insts.take m)).length ≤ m := fm_len
    refine zd<|za<|zf<|zSr<|z2 (zIM m underlying52 sizeOf61 rfl rfl rfl (qj hm2))<|z2 (zl isAgg61 sizeOf61 rfl rfl)<|y4 (cs := [.int .i64 0, .int .i64 0, .raw (.slice none 0 0), .int .i64 0]) zeroValue61 rfl rfl<|fun i14 => zw sizeOf61 rfl rfl rfl rfl rfl rfl .head rfl<|z6<|zSr<|z2 (zi underlying61 rfl sizeOf3 (by decide) rfl rfl)<|z2 (zm (c := .int _ _) isAgg3 rfl ⟨_, .head⟩ rfl)<|z2 (zMi rfl)<|z2 (yi rfl rfl)<|z6<|zr rfl (fun cd=>?_) (fun cd=>?_)
    ·have cd := nT cd
     have hpu : inX x y (b.insts.take (m + 1)) = inX x y (b.insts.take m) ++ [mapI (putT x y) b.insts[m]] := fm_push hm2 (qv cd)
     refine zSr<|z2 (zi underlying61 rfl sizeOf23 (by decide) rfl rfl)<|z2 (zm (c := .fro _ _) isAgg23 rfl ⟨_, .head⟩ rfl)<|z2 (zMi rfl)<|z2 (zMi rfl)<|zk (put19_spec b.insts[m].args x y (by omega)) rfl<|z2 (zi underlying61 rfl sizeOf23 (by decide) rfl rfl)<|yy (l := [_]) (new := [_, _, _, _]) sizeOf23 rfl rfl rfl rfl rfl rfl .head rfl rfl<|z6<|zRg<|z2 (zi underlying58 rfl sizeOf52 (by decide) rfl rfl)<|z2 (zm (c := .own _ _) isAgg52 rfl ⟨_, .t2⟩ rfl)<|z2 (q9 isAgg61 sizeOf61 rfl ⟨_, .head⟩ rfl)<|zt (rows := [[_, _, _, _]]) ps52_1 rfl rfl rfl rfl rfl<|yn (k := 4) underlying52 type61 rfl rfl rfl rfl rfl (fun _ => .t1) (grow_len (k := 4) (fun _ => rfl) _) (by decide) rfl (by show (_ + _) * 48 ≤ _; simp <;> omega) (by simp <;> omega)<|fun i80 => z2 (zi underlying58 rfl sizeOf52 (by decide) rfl rfl)<|yy (l := [_]) (new := [_, _, _, _, _, _, _]) sizeOf52 rfl rfl rfl rfl rfl rfl .t2 rfl rfl<|z6<|zRg<|z2 (zAd rfl rfl)<|z2 (zMi rfl)<|z6 ?_
     exact ⟨(m + 1, i80), zR11, zR1, ⟨_, (.drop (.refl _)), by rw [hpu, qp, ← grow_push rfl]; rfl⟩, hm2, by dsimp only; omega⟩
    ·have cd := Classical.not_not.2 (nF cd)
     have hpu : inX x y (b.insts.take (m + 1)) = inX x y (b.insts.take m) := fm_same hm2 (qw cd)
     refine zd<|zRg<|z2 (zAd rfl rfl)<|z2 (zMi rfl)<|z6 ?_
     exact ⟨(m + 1, ii), zR11, zR1, ⟨_, (.drop (.refl _)), by rw [hpu]⟩, hm2, by dsimp only; omega⟩
   ·obtain rfl : m = b.insts.length := by omega
    rw [qo]
    refine zy (zb (zc .t1))<|zx<|za<|zSr<|z2 (zFF underlying58 rfl sizeOf56 rfl rfl)<|z2 (zFF underlying56 rfl sizeOf53 rfl rfl)<|z2 (zLi isAgg53 rfl)<|z2 (yi rfl rfl)<|z2 (zMb rfl)<|zo (s := 87) rfl (fun c1=>?_) (fun c1=>?_)
    ·have d1 : ¬ b.term.kind = 0 := by simpa using c1
     refine z8 rfl rfl c1<|z2 (zFF underlying58 rfl sizeOf56 rfl rfl)<|z8 rfl rfl c1<|z2 (zFF underlying56 rfl sizeOf3 rfl rfl)<|z8 rfl rfl c1<|z2 (zLi isAgg3 rfl)<|z8 rfl rfl c1<|z2 (zMi rfl)<|z8 rfl rfl c1<|z2 (y9 rfl rfl)<|z2 (zPt rfl c1 rfl)<|z6<|zp rfl (fun c2=>?_) (fun c2=>?_)
     ·refine zRg<|z2 (zMi rfl)<|z2 (zi underlying58 rfl sizeOf56 (by decide) rfl rfl)<|z2 (zi underlying56 rfl sizeOf3 (by decide) rfl rfl)<|yy (l := [_]) (new := [_, _, _, _, _, _, _]) sizeOf3 rfl rfl rfl rfl rfl rfl .head rfl rfl<|z6 ?_
      have hpB : putB x y b = ⟨b.name, phX x y b.phis, inX x y b.insts, ⟨b.term.kind, y, b.term.to0, b.term.to1⟩⟩ := by unfold putB putTm phX inX; simp [d1, c2]
      refine zy (qd (off := 1) (rows := (phX x y b.phis).map encPhi) .t2 .head rfl (by simp [encI, encVar, encPhi, encInst, encBlk]) (by decide) (by simp))<|zy (qd (off := 2) (rows := (inX x y b.insts).map encInst) .t1 .head rfl (by simp [encI, encVar, encPhi, encInst, encBlk]) (by decide) (by simp))<|zRg<|z2 (zi underlying26 rfl sizeOf24 (by decide) rfl rfl)<|z2 (zm (c := .own _ _) isAgg24 rfl ⟨_, .t2⟩ rfl)<|z2 (q9 isAgg58 sizeOf58 rfl ⟨_, .head⟩ rfl)<|zt (rows := [[_, _, _, _, _, _, _]]) ps24_1 rfl rfl rfl rfl rfl<|yn (k := 7) underlying24 type58 rfl rfl rfl rfl rfl (fun _ => .t1) (by rw [grow_len (k := 7) (fun _ => rfl), qq, qu, Nat.min_eq_left hk]) (by decide) rfl (by show (_ + _) * 96 ≤ _; simp <;> omega) (by simp <;> omega)<|fun i101 => z2 (zi underlying26 rfl sizeOf24 (by decide) rfl rfl)<|yy (l := [_]) (new := [_, _, _]) sizeOf24 rfl rfl rfl rfl rfl rfl .t2 rfl rfl<|z6<|zRg<|z2 (zAd rfl rfl)<|z2 (zMi rfl)<|z6 ?_
      exact ⟨(k + 1, i101), zR6, zR1, ⟨_, (.drop (.refl _)), by rw [qk hk2, qt, hb, show List.map (putB x y) [b] = [putB x y b] from rfl, hpB, ← grow_push rfl]; rfl⟩, hk2, by dsimp only; omega⟩
     ·have hpB : putB x y b = ⟨b.name, phX x y b.phis, inX x y b.insts, ⟨b.term.kind, b.term.var, b.term.to0, b.term.to1⟩⟩ := by unfold putB putTm phX inX; simp [d1, c2]
      refine zy (qd (off := 1) (rows := (phX x y b.phis).map encPhi) .t2 .head rfl (by simp [encI, encVar, encPhi, encInst, encBlk]) (by decide) (by simp))<|zy (qd (off := 2) (rows := (inX x y b.insts).map encInst) .t1 .head rfl (by simp [encI, encVar, encPhi, encInst, encBlk]) (by decide) (by simp))<|zd<|zRg<|z2 (zi underlying26 rfl sizeOf24 (by decide) rfl rfl)<|z2 (zm (c := .own _ _) isAgg24 rfl ⟨_, .t2⟩ rfl)<|z2 (q9 isAgg58 sizeOf58 rfl ⟨_, .head⟩ rfl)<|zt (rows := [[_, _, _, _, _, _, _]]) ps24_1 rfl rfl rfl rfl rfl<|yn (k := 7) underlying24 type58 rfl rfl rfl rfl rfl (fun _ => .t1) (by rw [grow_len (k := 7) (fun _ => rfl), qq, qu, Nat.min_eq_left hk]) (by decide) rfl (by show (_ + _) * 96 ≤ _; simp <;> omega) (by simp <;> omega)<|fun i101 => z2 (zi underlying26 rfl sizeOf24 (by decide) rfl rfl)<|yy (l := [_]) (new := [_, _, _]) sizeOf24 rfl rfl rfl rfl rfl rfl .t2 rfl rfl<|z6<|zRg<|z2 (zAd rfl rfl)<|z2 (zMi rfl)<|z6 ?_
      exact ⟨(k + 1, i101), zR6, zR1, ⟨_, (.drop (.refl _)), by rw [qk hk2, qt, hb, show List.map (putB x y) [b] = [putB x y b] from rfl, hpB, ← grow_push rfl]; rfl⟩, hk2, by dsimp only; omega⟩
    ·have d1 : b.term.kind = 0 := by simpa using c1
     refine z7 rfl rfl c1<|z7 rfl rfl c1<|z7 rfl rfl c1<|z7 rfl rfl c1<|z7 rfl rfl c1<|z2 (zPf rfl c1 rfl)<|z6 ?_
     have hpB : putB x y b = ⟨b.name, phX x y b.phis, inX x y b.insts, ⟨b.term.kind, b.term.var, b.term.to0, b.term.to1⟩⟩ := by unfold putB putTm phX inX; simp [d1]
     refine zy (qd (off := 1) (rows := (phX x y b.phis).map encPhi) .t2 .head rfl (by simp [encI, encVar, encPhi, encInst, encBlk]) (by decide) (by simp))<|zy (qd (off := 2) (rows := (inX x y b.insts).map encInst) .t1 .head rfl (by simp [encI, encVar, encPhi, encInst, encBlk]) (by decide) (by simp))<|yl rfl rfl<|zd<|zRg<|z2 (zi underlying26 rfl sizeOf24 (by decide) rfl rfl)<|z2 (zm (c := .own _ _) isAgg24 rfl ⟨_, .t2⟩ rfl)<|z2 (q9 isAgg58 sizeOf58 rfl ⟨_, .head⟩ rfl)<|zt (rows := [[_, _, _, _, _, _, _]]) ps24_1 rfl rfl rfl rfl rfl<|yn (k := 7) underlying24 type58 rfl rfl rfl rfl rfl (fun _ => .t1) (by rw [grow_len (k := 7) (fun _ => rfl), qq, qu, Nat.min_eq_left hk]) (by decide) rfl (by show (_ + _) * 96 ≤ _; simp <;> omega) (by simp <;> omega)<|fun i101 => z2 (zi underlying26 rfl sizeOf24 (by decide) rfl rfl)<|yy (l := [_]) (new := [_, _, _]) sizeOf24 rfl rfl rfl rfl rfl rfl .t2 rfl rfl<|z6<|zRg<|z2 (zAd rfl rfl)<|z2 (zMi rfl)<|z6 ?_
     exact ⟨(k + 1, i101), zR6, zR1, ⟨_, (.drop (.refl _)), by rw [qk hk2, qt, hb, show List.map (putB x y) [b] = [putB x y b] from rfl, hpB, ← grow_push rfl]; rfl⟩, hk2, by dsimp only; omega⟩
 ·obtain rfl : k = g.blocks.length := by omega
  rw [qo]
  refine zx<|zy (qd (off := 2) (rows := (g.blocks.map (putB x y)).map encBlk) .head .head rfl (by simp [encI, encVar, encPhi, encInst, encBlk]) (by decide) (by simp))<|zSr<|z2 (q9 isAgg26 sizeOf26 rfl ⟨_, .head⟩ rfl)<|zw sizeOf26 rfl rfl rfl rfl rfl rfl .t1 rfl<|z6<|zh<|afin.c1 rfl ⟨_, .t1⟩ isAgg26 sizeOf26 rfl ?_
  rfl
def HitC (g : PFunc) (i k : Nat) (y x : PInst) : Prop := 0 ≤ x.dst ∧ x.dst ≠ y.dst ∧ sameI x y = true ∧ aheadR g (makerT g x.dst) i k = true
def NoX (g : PFunc) (i k : Nat) (y : PInst) (bs : List PBlock) : Prop := ∀ c ∈ bs, ∀ x ∈ c.insts, ¬ HitC g i k y x
def NoI (g : PFunc) (i : Nat) (xs : List PInst) (n : Nat) : Prop := ∀ k, k < n → ∀ y, xs[k]? = some y → 0 ≤ y.dst → NoX g i k y g.blocks
def NoB (g : PFunc) (n : Nat) : Prop := ∀ i, i < n → ∀ b, g.blocks[i]? = some b → NoI g i b.insts b.insts.length
def FoundN (g : PFunc) (p : Int × Int) : Prop := (p = (-1, -1) ∧ NoB g g.blocks.length) ∨ ∃ i b k y c x, g.blocks[i]? = some b ∧ b.insts[k]? = some y ∧ 0 ≤ y.dst ∧ c ∈ g.blocks ∧ x ∈ c.insts ∧ HitC g i k y x ∧ p = (y.dst, x.dst)
theorem noX_push {g : PFunc} {i k : Nat} {y : PInst} {bs : List PBlock} {j : Nat} (hj : j < bs.length) (h : NoX g i k y (bs.take j)) (h2 : ∀ x ∈ bs[j].insts, ¬ HitC g i k y x) : NoX g i k y (bs.take (j + 1)) := fun c hc => by
 rw [qk hj] at hc
 rcases List.mem_append.1 hc with hc | hc
 ·exact h c hc
 ·rw [List.mem_singleton.1 hc]; exact h2
theorem no_push {g : PFunc} {i k : Nat} {y : PInst} {xs : List PInst} {m : Nat} (hm : m < xs.length) (h : ∀ x ∈ xs.take m, ¬ HitC g i k y x) (h2 : ¬ HitC g i k y xs[m]) : ∀ x ∈ xs.take (m + 1), ¬ HitC g i k y x := fun x hx => by
 rw [qk hm] at hx
 rcases List.mem_append.1 hx with hx | hx
 ·exact h x hx
 ·rw [List.mem_singleton.1 hx]; exact h2
theorem noI_push {g : PFunc} {i k : Nat} {xs : List PInst} {y : PInst} (h : NoI g i xs k) (hy : xs[k]? = some y) (h2 : 0 ≤ y.dst → NoX g i k y g.blocks) : NoI g i xs (k + 1) := fun q hq z hz h0 => by
 rcases Nat.lt_succ_iff_lt_or_eq.1 hq with h1 | rfl
 ·exact h q h1 z hz h0
 ·rw [hy] at hz; cases hz; exact h2 h0
theorem noB_push {g : PFunc} {i : Nat} {b : PBlock} (h : NoB g i) (hb : g.blocks[i]? = some b) (h2 : NoI g i b.insts b.insts.length) : NoB g (i + 1) := fun q hq z hz => by
 rcases Nat.lt_succ_iff_lt_or_eq.1 hq with h1 | rfl
 ·exact h q h1 z hz
 ·rw [hb] at hz; cases hz; exact h2
set_option maxHeartbeats 8000000 in
theorem find31_spec (g : PFunc) (hf : small g) (hE : EndsOk g) (hd : ∀ b ∈ g.blocks, ∀ x ∈ b.insts, x.dst < g.vars.length) : ACall prog E 47 [.agg (encF g)] [] (fun r O => ∃ p : Int × Int, r = .tup [.int .i64 p.1, .int .i64 p.2] ∧ O = [] ∧ FoundN g p) := by
 refine ACall.exact (γ := Int × Int) (x := fun p => .tup [.int .i64 p.1, .int .i64 p.2]) (M := fun _ => []) (p := FoundN g) ?_
 obtain ⟨hf1, hf2, hf3, hf4, hf5⟩ := id hf
 refine zn func47 rfl (by decide) rfl<|zSr<|yd (cs := _) rfl rfl rfl<|z2 (zAi rfl)<|z2 (zAi rfl)<|z6<|za<|zSr<|z2 (zFF underlying26 rfl sizeOf24 rfl rfl)<|z2 (zLf isAgg24 rfl)<|z2 (zu underlying24 rfl)<|z2 (zMi rfl)<|z6<|zf<|zz (γ := Nat) [1, 13, 14] (fun i => [(15, .int .i64 i)]) (fun i => []) (fun i => i ≤ g.blocks.length ∧ NoB g i) (fun i => g.blocks.length - i) 0 zR1 zLe (⟨qm _, fun _ h => absurd h (Nat.not_lt_zero _)⟩) ?_
 rintro i ⟨hi, hB⟩
 refine zSr<|z2 (yc rfl rfl)<|z6<|za<|zp rfl (fun ci=>?_) (fun ci=>?_)
 ·have hi2 : i < g.blocks.length := by omega
  obtain ⟨b, hb⟩ : ∃ b, g.blocks[i] = b := ⟨_, rfl⟩
  have hget : g.blocks[i]? = some b := by rw [qj hi2, hb]
  have hbm : b ∈ g.blocks := hb ▸ qn hi2
  obtain ⟨hb0, hb1, hb2, hb3, hb4⟩ := hf5 b hbm
  refine zd<|za<|zf<|zSr<|z2 (zMi rfl)<|z2 (zIM i underlying24 sizeOf58 rfl rfl rfl hget)<|z2 (zl isAgg58 sizeOf58 rfl rfl)<|y4 (cs := [.str ⟨#[]⟩, .raw (.slice none 0 0), .raw (.slice none 0 0), .int .i64 0, .int .i64 0, .int .i64 0, .int .i64 0]) zeroValue58 rfl rfl<|fun i5 => z2 (zAi rfl)<|zw sizeOf58 rfl rfl rfl rfl rfl rfl .head rfl<|ze (yh (t := 5) rfl .head)<|z6<|zSr<|z2 (zFF underlying58 rfl sizeOf52 rfl rfl)<|z2 (zLf isAgg52 rfl)<|z2 (zu underlying52 rfl)<|z2 (zMi rfl)<|z6<|zf<|zz (γ := Nat) [1, 4, 13, 14, 15, 21, 22] (fun k => [(23, .int .i64 k)]) (fun k => []) (fun k => k ≤ b.insts.length ∧ NoI g i b.insts k) (fun k => b.insts.length - k) 0 zR1 zLe (⟨qm _, fun _ h => absurd h (Nat.not_lt_zero _)⟩) ?_
  rintro k ⟨hk, hI⟩
  refine zSr<|z2 (yc rfl rfl)<|z6<|za<|zp rfl (fun ck=>?_) (fun ck=>?_)
  ·have hk2 : k < b.insts.length := by omega
   obtain ⟨y, hy⟩ : ∃ y, b.insts[k] = y := ⟨_, rfl⟩
   have hyg : b.insts[k]? = some y := by rw [qj hk2, hy]
   have hal := hb4 y (hy ▸ qn hk2)
   refine zd<|za<|zf<|zSr<|z2 (zMi rfl)<|z2 (zIM k underlying52 sizeOf61 rfl rfl rfl hyg)<|z2 (zl isAgg61 sizeOf61 rfl rfl)<|y4 (cs := [.int .i64 0, .int .i64 0, .raw (.slice none 0 0), .int .i64 0]) zeroValue61 rfl rfl<|fun i7 => z2 (zAi rfl)<|zw sizeOf61 rfl rfl rfl rfl rfl rfl .head rfl<|ze (yh (t := 7) rfl .head)<|z6<|za<|zSr<|z2 (zFF underlying61 rfl sizeOf3 rfl rfl)<|z2 (zLi isAgg3 rfl)<|z2 (yc rfl rfl)<|z6<|zp rfl (fun c0=>?_) (fun c0=>?_)
   ·have hI2 : NoI g i b.insts (k + 1) := noI_push hI hyg fun h => by omega
    refine zx<|zRg<|z2 (zAd rfl rfl)<|z2 (zMi rfl)<|z6 ?_
    exact ⟨k + 1, zR7, zR1, zLe, ⟨hk2, hI2⟩, by omega⟩
   ·have h0 : 0 ≤ y.dst := by omega
    refine zd<|zSr<|z2 (zFF underlying26 rfl sizeOf24 rfl rfl)<|z2 (zLf isAgg24 rfl)<|z2 (zu underlying24 rfl)<|z2 (zMi rfl)<|z6<|zf<|zz (γ := Nat) [1, 4, 6, 7, 13, 14, 15, 21, 22, 23, 32, 33] (fun j => [(34, .int .i64 j)]) (fun j => []) (fun j => j ≤ g.blocks.length ∧ NoX g i k y (g.blocks.take j)) (fun j => g.blocks.length - j) 0 zR1 zLe (⟨qm _, fun _ h => by cases h⟩) ?_
    rintro j ⟨hj, hX⟩
    refine zSr<|z2 (yc rfl rfl)<|z6<|za<|zp rfl (fun cj=>?_) (fun cj=>?_)
    ·have hj2 : j < g.blocks.length := by omega
     obtain ⟨c, hc⟩ : ∃ c, g.blocks[j] = c := ⟨_, rfl⟩
     have hcm : c ∈ g.blocks := hc ▸ qn hj2
     obtain ⟨hc0, hc1, hc2, hc3, hc4⟩ := hf5 c hcm
     refine zd<|za<|zf<|zSr<|z2 (zIM j underlying24 sizeOf58 rfl rfl rfl (by rw [qj hj2, hc])) ?_
     refine z2 (zl isAgg58 sizeOf58 rfl rfl)<|y4 (cs := [.str ⟨#[]⟩, .raw (.slice none 0 0), .raw (.slice none 0 0), .int .i64 0, .int .i64 0, .int .i64 0, .int .i64 0]) zeroValue58 rfl rfl<|fun i9 => zw sizeOf58 rfl rfl rfl rfl rfl rfl .head rfl<|ze (yh (t := 9) rfl .head)<|z6<|zSr<|z2 (zFF underlying58 rfl sizeOf52 rfl rfl)<|z2 (zLf isAgg52 rfl)<|z2 (zu underlying52 rfl)<|z2 (zMi rfl)<|z6<|zf<|zz (γ := Nat) [1, 4, 6, 7, 13, 14, 15, 21, 22, 23, 32, 33, 34, 39, 40] (fun m => [(41, .int .i64 m)]) (fun m => []) (fun m => m ≤ c.insts.length ∧ ∀ x ∈ c.insts.take m, ¬ HitC g i k y x) (fun m => c.insts.length - m) 0 zR1 zLe (⟨qm _, fun _ h => by cases h⟩) ?_
     rintro m ⟨hm, hM⟩
     refine zSr<|z2 (yc rfl rfl)<|z6<|za<|zp rfl (fun cm=>?_) (fun cm=>?_)
     ·have hm2 : m < c.insts.length := by omega
      have hxm := qn hm2
      have hxl := hc4 _ hxm
      have hxd := hd c hcm _ hxm
      refine zd<|za<|zf<|zSr<|z2 (zIM m underlying52 sizeOf61 rfl rfl rfl (qj hm2))<|z2 (zl isAgg61 sizeOf61 rfl rfl)<|y4 (cs := [.int .i64 0, .int .i64 0, .raw (.slice none 0 0), .int .i64 0]) zeroValue61 rfl rfl<|fun i11 => zw sizeOf61 rfl rfl rfl rfl rfl rfl .head rfl<|ze (yh (t := 11) rfl .head)<|z6<|zSr<|z2 (zFF underlying61 rfl sizeOf3 rfl rfl)<|z2 (zLi isAgg3 rfl)<|z2 (Gv.geq rfl rfl)<|z2 (zMb rfl)<|zo (s := 48) rfl (fun c1=>?_) (fun c1=>?_)
      ·have h1 : 0 ≤ c.insts[m].dst := by simpa using c1
       refine z8 rfl rfl c1<|z2 (zFF underlying61 rfl sizeOf3 rfl rfl)<|z8 rfl rfl c1<|z2 (zLi isAgg3 rfl)<|z8 rfl rfl c1<|z2 (zFF underlying61 rfl sizeOf3 rfl rfl)<|z8 rfl rfl c1<|z2 (zLi isAgg3 rfl)<|z8 rfl rfl c1<|z2 (yi rfl rfl)<|z2 (zPt rfl c1 rfl)<|z2 (zMb rfl)<|zo (s := 55) rfl (fun c2=>?_) (fun c2=>?_)
       ·have h2 : c.insts[m].dst ≠ y.dst := by simpa using c2
        refine z8 rfl rfl c2<|z2 (zl isAgg61 sizeOf61 rfl rfl)<|z8 rfl rfl c2<|z2 (zl isAgg61 sizeOf61 rfl rfl)<|z8 rfl rfl c2<|zk (same31_spec c.insts[m] y (by omega) (by omega)) rfl<|z2 (zPt rfl c2 rfl)<|z2 (zMb rfl)<|zo (s := 60) rfl (fun c3=>?_) (fun c3=>?_)
        ·refine z8 rfl rfl c3<|z2 (zl isAgg26 sizeOf26 rfl rfl)<|z8 rfl rfl c3<|z2 (zFF underlying61 rfl sizeOf3 rfl rfl)<|z8 rfl rfl c3<|z2 (zLi isAgg3 rfl)<|z8 rfl rfl c3<|z2 (zMi rfl)<|z8 rfl rfl c3<|z2 (zMi rfl)<|z8 rfl rfl c3<|zk (refAheadV_spec g hE hf (v := c.insts[m].dst) (by simp [hasV, h1, hxd]) i k (by omega) (by omega)) rfl<|z2 (zPt rfl c3 rfl)<|z6<|zr rfl (fun c4=>?_) (fun c4=>?_)
         ·refine za<|yb (fun j => false) (by kernel_rfl) rfl (zq (.rest _))<|zTk 0 rfl (zFF underlying61 rfl sizeOf3 rfl rfl)<|zTk 1 rfl (zLi isAgg3 rfl)<|zTk 2 rfl (zFF underlying61 rfl sizeOf3 rfl rfl)<|zTk 3 rfl (zLi isAgg3 rfl)<|zTk 4 rfl (zAi rfl)<|zTk 5 rfl (zAi rfl)<|zDn<|zh<|afin.t2 (x := .int _ _) (y := .int _ _) rfl rfl ?_
          exact ⟨(y.dst, c.insts[m].dst), rfl, ⟨_, .refl _, rfl⟩, .inr ⟨i, b, k, y, c, c.insts[m], hget, hyg, h0, hcm, hxm, ⟨h1, h2, c3, c4⟩, rfl⟩⟩
         ·refine zd<|zRg<|z2 (zAd rfl rfl)<|z2 (zMi rfl)<|z6 ?_
          exact ⟨m + 1, zR15, zR1, zLe, ⟨hm2, no_push hm2 hM fun h => absurd h.2.2.2 (by rw [show aheadR g (makerT g c.insts[m].dst) i k = false from c4]; decide)⟩, by omega⟩
        ·refine z7 rfl rfl c3<|z7 rfl rfl c3<|z7 rfl rfl c3<|z7 rfl rfl c3<|z7 rfl rfl c3<|z7 rfl rfl c3<|z2 (zPf rfl c3 rfl)<|z6<|yl rfl rfl<|zd<|zRg<|z2 (zAd rfl rfl)<|z2 (zMi rfl)<|z6 ?_
         exact ⟨m + 1, zR15, zR1, zLe, ⟨hm2, no_push hm2 hM fun h => absurd h.2.2.1 (by rw [show sameI c.insts[m] y = false from c3]; decide)⟩, by omega⟩
       ·refine z7 rfl rfl c2<|z7 rfl rfl c2<|z7 rfl rfl c2<|z2 (zPf rfl c2 rfl)<|z2 (zMb rfl)<|z7 rfl rfl rfl<|z7 rfl rfl rfl<|z7 rfl rfl rfl<|z7 rfl rfl rfl<|z7 rfl rfl rfl<|z7 rfl rfl rfl<|z2 (zPf rfl rfl rfl)<|z6<|yl rfl rfl<|zd<|zRg<|z2 (zAd rfl rfl)<|z2 (zMi rfl)<|z6 ?_
        exact ⟨m + 1, zR15, zR1, zLe, ⟨hm2, no_push hm2 hM fun h => by simp [h.2.1] at c2⟩, by omega⟩
      ·refine z7 rfl rfl c1<|z7 rfl rfl c1<|z7 rfl rfl c1<|z7 rfl rfl c1<|z7 rfl rfl c1<|z2 (zPf rfl c1 rfl)<|z2 (zMb rfl)<|z7 rfl rfl rfl<|z7 rfl rfl rfl<|z7 rfl rfl rfl<|z2 (zPf rfl rfl rfl)<|z2 (zMb rfl)<|z7 rfl rfl rfl<|z7 rfl rfl rfl<|z7 rfl rfl rfl<|z7 rfl rfl rfl<|z7 rfl rfl rfl<|z7 rfl rfl rfl<|z2 (zPf rfl rfl rfl)<|z6<|yl rfl rfl<|zd<|zRg<|z2 (zAd rfl rfl)<|z2 (zMi rfl)<|z6 ?_
       exact ⟨m + 1, zR15, zR1, zLe, ⟨hm2, no_push hm2 hM fun h => by simp at c1; have := h.1; omega⟩, by omega⟩
     ·obtain rfl : m = c.insts.length := by omega
      rw [qo] at hM
      refine zx<|zRg<|z2 (zAd rfl rfl)<|z2 (zMi rfl)<|z6 ?_
      exact ⟨j + 1, zR12, zR1, zLe, ⟨hj2, noX_push hj2 hX (by rw [hc]; exact hM)⟩, by omega⟩
    ·obtain rfl : j = g.blocks.length := by omega
     rw [qo] at hX
     have hI2 : NoI g i b.insts (k + 1) := noI_push hI hyg fun _ => hX
     refine zx<|zRg<|z2 (zAd rfl rfl)<|z2 (zMi rfl)<|z6 ?_
     exact ⟨k + 1, zR7, zR1, zLe, ⟨hk2, hI2⟩, by omega⟩
  ·obtain rfl : k = b.insts.length := by omega
   have hB2 : NoB g (i + 1) := noB_push hB hget hI
   refine zx<|zRg<|z2 (zAd rfl rfl)<|z2 (zMi rfl)<|z6 ?_
   exact ⟨i + 1, zR3, zR1, zLe, ⟨hi2, hB2⟩, by omega⟩
 ·obtain rfl : i = g.blocks.length := by omega
  refine zx<|zSr<|z2 (zAi rfl)<|z2 (zAi rfl)<|z6<|zh<|afin.t2 (x := .int _ _) (y := .int _ _) rfl rfl ?_
  exact ⟨(-1, -1), rfl, ⟨_, .refl _, rfl⟩, .inl ⟨rfl, hB⟩⟩
theorem small_num {f : PFunc} (hf : small f) (r : Int → Int) : small (numF f r) := by
 obtain ⟨h1, h2, h3, h4, h5⟩ := hf
 refine ⟨h1, h2, by show (f.blocks.map _).length ≤ _; rw [qq]; exact h3, h4, fun b hb => ?_⟩
 obtain ⟨c, hc, rfl⟩ := List.mem_map.1 hb
 obtain ⟨g0, g1, g2, g3, g4⟩ := h5 c hc
 refine ⟨g0, by show (c.phis.map _).length ≤ _; rw [qq]; exact g1, ?_, fun p hp => ?_, fun x hx => ?_⟩
 ·show ((c.insts.filter _).map _).length ≤ _
  rw [qq]; exact Nat.le_trans (List.length_filter_le _ _) g2
 ·obtain ⟨q, hq, rfl⟩ := List.mem_map.1 hp
  exact ⟨by show (q.args.map _).length ≤ _; rw [qq]; exact (g3 q hq).1, (g3 q hq).2⟩
 ·obtain ⟨z, hz, rfl⟩ := List.mem_map.1 hx
  show (z.args.map _).length ≤ _
  rw [qq]; exact g4 z (List.mem_filter.1 hz).1
theorem ends_num {f : PFunc} (hE : EndsOk f) (r : Int → Int) : EndsOk (numF f r) :=
 ⟨by show 0 < (f.blocks.map _).length; rw [qq]; exact hE.pos, fun b hb c hc => by
  obtain ⟨d, hd, rfl⟩ := List.mem_map.1 hb
  show 0 ≤ c ∧ c < ((f.blocks.map _).length : Nat)
  rw [qq]; exact hE.rng d hd c hc⟩
theorem dst_num {f : PFunc} (hd : ∀ b ∈ f.blocks, ∀ x ∈ b.insts, x.dst < f.vars.length) (r : Int → Int) : ∀ b ∈ (numF f r).blocks, ∀ x ∈ b.insts, x.dst < (numF f r).vars.length := fun b hb x hx => by
 obtain ⟨c, hc, rfl⟩ := List.mem_map.1 hb
 obtain ⟨z, hz, rfl⟩ := List.mem_map.1 hx
 exact hd c hc z (List.mem_filter.1 hz).1
theorem hit_ahead {g : PFunc} (hE : EndsOk g) (hA : AllRP g) {i k : Nat} {b : PBlock} (hb : g.blocks[i]? = some b) {v : Int} : aheadR g (makerT g v) i k = true ↔ AheadP g (makerT g v) i k := by
 rw [aheadR_eq hE _ _ (hA i (List.getElem?_eq_some_iff.1 hb).1), aheadB_iff hE]
theorem found_hit {g : PFunc} (hE : EndsOk g) (hA : AllRP g) {p : Int × Int} (h : FoundN g p) : (p.1 < 0 → ∀ y x, ¬ HitN g y x) ∧ (¬ p.1 < 0 → ∃ y x, HitN g y x ∧ p = (y.dst, x.dst)) := by
 rcases h with ⟨rfl, h⟩ | ⟨i, b, k, y, c, x, h1, h2, h3, h4, h5, h6, rfl⟩
 ·refine ⟨fun _ y x ⟨i, k, j, q, ⟨b, a1, a2⟩, ⟨c, b1, b2⟩, y0, x0, hne, hs, ha⟩ => ?_, fun h => absurd (by decide) h⟩
  exact h i (List.getElem?_eq_some_iff.1 a1).1 b a1 k (List.getElem?_eq_some_iff.1 a2).1 y a2 y0 c (qs b1) x (qs b2) ⟨x0, hne, hs, (hit_ahead hE hA a1).2 ha⟩
 ·refine ⟨fun h => absurd h3 (by dsimp only at h; omega), fun _ => ⟨y, x, ?_, rfl⟩⟩
  obtain ⟨j, hj⟩ := List.getElem?_of_mem h4
  obtain ⟨q, hq⟩ := List.getElem?_of_mem h5
  exact ⟨i, k, j, q, ⟨b, h1, h2⟩, ⟨c, hj, hq⟩, h3, h6.1, h6.2.1, h6.2.2.1, (hit_ahead hE hA h1).1 h6.2.2.2⟩
theorem number31_spec {rk : Nat → Nat → Nat} (f : PFunc) (hf : small f) (hE : EndsOk f) (hA : AllRP f) (hF : NumOk f rk) (hd : ∀ b ∈ f.blocks, ∀ x ∈ b.insts, x.dst < f.vars.length) {r0 : Int → Int} (hr0 : Roots f r0) : AFun prog E 15 [.agg (encF f)] (.agg (encF (numF f r0))) := by
 have hAn : ∀ r, AllRP (numF f r) := fun r i hi => by
  rw [num_ends]
  refine hA i ?_
  have : (numF f r).blocks.length = f.blocks.length := qq ..
  omega
 refine zn func15 rfl (by decide) rfl<|zSr<|ym (cs := _) rfl rfl rfl rfl<|fun i1 => y4 (cs := [.raw (.slice none 0 0), .raw (.slice none 0 0), .raw (.slice none 0 0)]) zeroValue26 rfl rfl<|fun i2 => z6<|zy (zb (zc .t1))<|zf<|zz (γ := Int → Int) [1, 2] (fun r => []) (fun r => [(i1, .cells 26 (encF (numF f r))), (i2, .cells 26 [.raw (.slice none 0 0), .raw (.slice none 0 0), .raw (.slice none 0 0)])]) (fun r => Half f r) (fun r => fixN f.vars.length r) _root_.id trivial ⟨_, (.refl _), by rw [num_id]; rfl⟩ (Half.first f) ?_
 rintro r hr
 refine zf<|zSr<|z2 (q9 isAgg26 sizeOf26 rfl ⟨_, .head⟩ rfl)<|y6 rfl (zq (.r (.r (.rest _)))) (find31_spec (numF f r) (small_num hf r) (ends_num hE r) (dst_num hd r)) ?_
 rintro r7 O7 ⟨p, rfl, rfl, hp⟩
 refine z2 (zMu rfl)<|z2 (zXi rfl rfl)<|z2 (zXi rfl rfl)<|z2 (zAi rfl)<|z2 (zAi rfl)<|z6 ?_
 obtain ⟨f1, f2⟩ := found_hit (ends_num hE r) (hAn r) hp
 refine za<|zSr<|z2 (zMi rfl)<|z2 (yc rfl rfl)<|z6<|zp rfl (fun cy=>?_) (fun cy=>?_)
 ·have hR := half_end hF hr (f1 cy)
  refine zSr<|z2 (q9 isAgg26 sizeOf26 rfl ⟨_, .head⟩ rfl)<|zw sizeOf26 rfl rfl rfl rfl rfl rfl .t1 rfl<|z6<|zh<|afin.c1 rfl ⟨_, .t1⟩ isAgg26 sizeOf26 rfl ?_
  exact congrArg (fun g => AV.agg (encF g)) (num_congr (root_all hF.hH hR hr0))
 ·obtain ⟨y, x, hit, hpe⟩ := f2 cy
  obtain ⟨g1, g2, g3⟩ := half_put hF hr hit
  subst hpe
  refine zd<|zRg<|z2 (q9 isAgg26 sizeOf26 rfl ⟨_, .head⟩ rfl)<|z2 (zMi rfl)<|z2 (zMi rfl)<|zk (Put19_spec (numF f r) (small_num hf r) y.dst x.dst) rfl<|zw sizeOf26 rfl rfl rfl rfl rfl rfl .head rfl<|z6 ?_
  exact ⟨(fun v => putT y.dst x.dst (r v)), zR2, trivial, ⟨_, (.refl _), by rw [← g2]; rfl⟩, g1, g3⟩
end Go.Proofs.YtiojekbkamegdaaGreatDoor
