/- Truths, out of what a call is handed. No conditions. -/
import Derived.Test.YtiojekbkamegdaaGreatDoorZo
import Derived.Test.YtiojekbkamegdaaGreatDoorZs
import Derived.Test.YtiojekbkamegdaaGreatDoorZh
import Derived.Test.YtiojekbkamegdaaGreatDoorZc
import Derived.Test.YtiojekbkamegdaaGreatDoorZn
import Derived.Lib.LaidRTab
import Derived.Test.YtiojekbkamegdaaGreatDoorRows
import Derived.Test.YtiojekbkamegdaaGreatDoorChecked
import Derived.ProofKit
import Derived.JoinedOf
set_option linter.unusedVariables false
set_option linter.unusedSimpArgs false
set_option linter.unusedSectionVars false
namespace Go.Proofs.YtiojekbkamegdaaGreatDoor
open Go.Proofs.Tryz
open Go.Proofs Go.Lib Go.Shelf Go.RowKit
theorem pl66 : Places prog 66 #[(0, 1), (1, 1), (2, 1)] [.int .i64 0, .bool false, .int .i64 0] := ⟨_, _, underlying66, zeroValue66, fun w => by kernel_rfl, rfl⟩
theorem ps34_2 : PlacesS prog 34 66 2 3 [.int .i64 0, .bool false, .int .i64 0, .int .i64 0, .bool false, .int .i64 0] := ⟨_, underlying34, sizeOf66, zeroValue66, by decide, by decide, by kernel_rfl⟩
theorem pl37 : Places prog 37 #[(0, 1), (1, 1)] [.raw (.slice none 0 0), .raw (.slice none 0 0)] := ⟨_, _, underlying37, zeroValue37, fun w => by kernel_rfl, rfl⟩
variable {E : World}
set_option maxRecDepth 20000
def diaB (l r : Bool) : PFunc := diaF (if l then [chk36] else []) (if r then [chk36] else []) [chk36]
def movB (l r : Bool) : PFunc := if l || r then preG else diaB l r
theorem diamond_s (l r : Bool) : AFun prog E 27 [.bool l, .bool r] (.agg (encF (diaB l r))) := by
 refine zo func27 rfl (by decide) rfl<|zSr<|zy (cs := [.raw (.slice none 0 0), .raw (.slice none 0 0), .raw (.slice none 0 0)]) zeroValue26 rfl rfl<|fun i4 => z6<|zSr<|zw (rows := [[_]]) ps23_1 rfl rfl rfl rfl rfl<|z2 (zx (cps := [(0, [_]), (1, [_]), (2, [_])]) (rs := [_, _, _, .int .i64 0]) pl61 rfl rfl rfl)<|zw (rows := [[_, _, _, _]]) ps52_1 rfl rfl rfl rfl rfl<|z2 (zAf rfl)<|z6<|zSr<|z2 (zx (cps := [(0, [_])]) (rs := [_, .int .i64 0]) pl79 rfl rfl rfl)<|z2 (zx (cps := [(0, [_]), (1, [_])]) (rs := [_, _]) pl79 rfl rfl rfl)<|zw (rows := [[_, _], [_, _]]) ps22_2 rfl rfl rfl rfl rfl<|zw (rows := [[_], [_]]) ps23_2 rfl rfl rfl rfl rfl<|z2 (Gv.buildA (cps := [(0, [_]), (1, [_])]) (rs := [_, _]) pl54 rfl rfl rfl)<|z2 (zx (cps := [(0, [_]), (1, [_]), (2, [_, _])]) (rs := [_, _, _, _]) pl56 rfl rfl rfl)<|z2 (zx (cps := [(0, [_]), (3, [_, _, _, _])]) (rs := [_, .raw (.slice none 0 0), .raw (.slice none 0 0), _, _, _, _]) pl58 rfl rfl rfl)<|zc (GStep.slot (t := 16) rfl (Imp.agg (.cons (.refl _) (.cons (.nil 3) (.cons (.nil 4) (.cons (.refl _) (.cons (.refl _) (.cons (.refl _) (.cons (.refl _) .nil)))))))))<|z2 (Gv.buildA (cps := [(0, [_]), (1, [_])]) (rs := [_, _]) pl54 rfl rfl rfl)<|z2 (zx (cps := [(2, [_, _])]) (rs := [.int .i64 0, .int .i64 0, _, _]) pl56 rfl rfl rfl)<|z2 (zx (cps := [(0, [_]), (3, [_, _, _, _])]) (rs := [_, .raw (.slice none 0 0), .raw (.slice none 0 0), _, _, _, _]) pl58 rfl rfl rfl)<|zc (GStep.slot (t := 19) rfl (Imp.agg (.cons (.refl _) (.cons (.nil 3) (.cons (.nil 4) (.cons (.refl _) (.cons (.refl _) (.cons (.refl _) (.cons (.refl _) .nil)))))))))<|z2 (Gv.buildA (cps := [(0, [_]), (1, [_])]) (rs := [_, _]) pl54 rfl rfl rfl)<|z2 (zx (cps := [(2, [_, _])]) (rs := [.int .i64 0, .int .i64 0, _, _]) pl56 rfl rfl rfl)<|z2 (zx (cps := [(0, [_]), (3, [_, _, _, _])]) (rs := [_, .raw (.slice none 0 0), .raw (.slice none 0 0), _, _, _, _]) pl58 rfl rfl rfl)<|zc (GStep.slot (t := 22) rfl (Imp.agg (.cons (.refl _) (.cons (.nil 3) (.cons (.nil 4) (.cons (.refl _) (.cons (.refl _) (.cons (.refl _) (.cons (.refl _) .nil)))))))))<|z2 (zMf rfl)<|z2 (zx (cps := [(0, [_])]) (rs := [_, .int .i64 0, .int .i64 0, .int .i64 0]) pl56 rfl rfl rfl)<|z2 (zx (cps := [(0, [_]), (2, [_]), (3, [_, _, _, _])]) (rs := [_, .raw (.slice none 0 0), _, _, _, _, _]) pl58 rfl rfl rfl)<|zc (GStep.slot (t := 25) rfl (Imp.agg (.cons (.refl _) (.cons (.nil 3) (.cons (.refl _) (.cons (.refl _) (.cons (.refl _) (.cons (.refl _) (.cons (.refl _) .nil)))))))))<|AOps.buildSliceO (cps := [(0, [_, _, _, _, _, _, _]), (1, [_, _, _, _, _, _, _]), (2, [_, _, _, _, _, _, _]), (3, [_, _, _, _, _, _, _])]) (rs := [_, _, _, _, _, _, _, _, _, _, _, _, _, _, _, _, _, _, _, _, _, _, _, _, _, _, _, _]) ps24_4 rfl rfl rfl rfl rfl<|fun i26 => z2 (zx (cps := [(0, [_]), (1, [_]), (2, [_])]) (rs := [_, _, _]) pl26 rfl rfl rfl)<|zy (cs := [.raw (.slice none 0 0), .raw (.slice none 0 0), .raw (.slice none 0 0)]) zeroValue26 rfl rfl<|fun i6 => zq sizeOf26 rfl rfl rfl rfl rfl rfl .head rfl<|z6<|zd<|zSr ?_
 refine z2 (zMb rfl)<|z6<|zz rfl (fun cl=>?_) (fun cl=>?_)
 ·have cl : l = true := cl
  subst cl
  refine zRg<|z2 (ze underlying26 rfl sizeOf24 (by decide) rfl rfl)<|z2 (zl (c := .own _ _) isAgg24 rfl ⟨_, .head⟩ rfl)<|z2 (zMf rfl)<|z2 (Gv.idxO (j := 1) underlying24 sizeOf58 rfl rfl rfl ⟨_, .t1⟩ (by intro h; cases h) (by omega))<|z2 (ze underlying58 rfl sizeOf52 (by decide) rfl rfl)<|AOps.storeGN (new := _) sizeOf52 rfl rfl rfl rfl rfl .t1 (by show 9 < 28; omega) rfl<|z6<|zd<|zSr<|z2 (zMb rfl)<|z6<|zz rfl (fun cr=>?_) (fun cr=>?_)
  ·have cr : r = true := cr
   subst cr
   refine zRg<|z2 (ze underlying26 rfl sizeOf24 (by decide) rfl rfl)<|z2 (zl (c := .own _ _) isAgg24 rfl ⟨_, .head⟩ rfl)<|z2 (zMf rfl)<|z2 (Gv.idxO (j := 2) underlying24 sizeOf58 rfl rfl rfl ⟨_, .t1⟩ (by intro h; cases h) (by omega))<|z2 (ze underlying58 rfl sizeOf52 (by decide) rfl rfl)<|AOps.storeGN (new := _) sizeOf52 rfl rfl rfl rfl rfl .t1 (by show 16 < 28; omega) rfl<|z6<|yc (qf (off := 2) (rows := (diaB true true).blocks.map encBlk) .t1 .head rfl (by decide) (by decide) (by rfl))<|zSr<|z2 (q9 isAgg26 sizeOf26 rfl ⟨_, .head⟩ rfl)<|zq sizeOf26 rfl rfl rfl rfl rfl rfl .t1 rfl<|z6<|zg<|afin.c1 rfl ⟨_, .t1⟩ isAgg26 sizeOf26 rfl ?_
   rfl
  ·have cr : r = false := cr
   subst cr
   refine yc (qf (off := 2) (rows := (diaB true false).blocks.map encBlk) .t1 .head rfl (by decide) (by decide) (by rfl))<|zh<|zSr<|z2 (q9 isAgg26 sizeOf26 rfl ⟨_, .head⟩ rfl)<|zq sizeOf26 rfl rfl rfl rfl rfl rfl .t1 rfl<|z6<|zg<|afin.c1 rfl ⟨_, .t1⟩ isAgg26 sizeOf26 rfl ?_
   rfl
 ·have cl : l = false := cl
  subst cl
  refine zh<|zd<|zSr<|z2 (zMb rfl)<|z6<|zz rfl (fun cr=>?_) (fun cr=>?_)
  ·have cr : r = true := cr
   subst cr
   refine zRg<|z2 (ze underlying26 rfl sizeOf24 (by decide) rfl rfl)<|z2 (zl (c := .own _ _) isAgg24 rfl ⟨_, .head⟩ rfl)<|z2 (zMf rfl)<|z2 (Gv.idxO (j := 2) underlying24 sizeOf58 rfl rfl rfl ⟨_, .t1⟩ (by intro h; cases h) (by omega))<|z2 (ze underlying58 rfl sizeOf52 (by decide) rfl rfl)<|AOps.storeGN (new := _) sizeOf52 rfl rfl rfl rfl rfl .t1 (by show 16 < 28; omega) rfl<|z6<|yc (qf (off := 2) (rows := (diaB false true).blocks.map encBlk) .t1 .head rfl (by decide) (by decide) (by rfl))<|zSr<|z2 (q9 isAgg26 sizeOf26 rfl ⟨_, .head⟩ rfl)<|zq sizeOf26 rfl rfl rfl rfl rfl rfl .t1 rfl<|z6<|zg<|afin.c1 rfl ⟨_, .t1⟩ isAgg26 sizeOf26 rfl ?_
   rfl
  ·have cr : r = false := cr
   subst cr
   refine yc (qf (off := 2) (rows := (diaB false false).blocks.map encBlk) .t1 .head rfl (by decide) (by decide) (by rfl))<|zh<|zSr<|z2 (q9 isAgg26 sizeOf26 rfl ⟨_, .head⟩ rfl)<|zq sizeOf26 rfl rfl rfl rfl rfl rfl .t1 rfl<|z6<|zg<|afin.c1 rfl ⟨_, .t1⟩ isAgg26 sizeOf26 rfl ?_
   rfl
theorem small_dia (l r : Bool) : small (diaB l r) ∧ small (movB l r) := by
 cases l <;> cases r <;> (unfold movB preG diaB small diaF chk36; simp [smallBlk]; decide)
theorem last_dia (l r : Bool) : lastP (diaB l r) ∧ lastP (movB l r) := by
 cases l <;> cases r <;> exact ⟨lastP_of (by decide +kernel), lastP_of (by decide +kernel)⟩
theorem pl_dia : ∀ l r : Bool, plB (diaB l r) = true ∧ plB (movB l r) = true := by decide +kernel
theorem st_dia : ∀ l r : Bool, ((stepF (diaB l r) true 0).2 = false ∧ (stepF (diaB l r) true 1).2 = false ∧ (stepF (diaB l r) true 2).2 = false) ∧ (stepF (diaB l r) true 3) = (movB l r, l || r) ∧ (stepF (movB l r) true 3).2 = false := by decide +kernel
def trB (l r : Bool) (b : Nat) : PFunc := if b ≤ 3 then diaB l r else movB l r
theorem tr_dia (l r : Bool) (b : Nat) (h : b < (diaB l r).blocks.length) : ∃ n, Mv (trB l r b) b n (trB l r (b + 1)) := by
 have h : b < 4 := h
 have hF : OkM (diaB l r) := ⟨(small_dia l r).1, (last_dia l r).1⟩
 have hG : OkM (movB l r) := ⟨(small_dia l r).2, (last_dia l r).2⟩
 obtain ⟨p1, p2⟩ := pl_dia l r
 obtain ⟨⟨s0, s1, s2⟩, s3, s4⟩ := st_dia l r
 obtain rfl | rfl | rfl | rfl : b = 0 ∨ b = 1 ∨ b = 2 ∨ b = 3 := by omega
 ·exact ⟨0, .stop hF (by show (stepF (diaB l r) (plB (diaB l r)) 0).2 = false; rw [p1]; exact s0)⟩
 ·exact ⟨0, .stop hF (by show (stepF (diaB l r) (plB (diaB l r)) 1).2 = false; rw [p1]; exact s1)⟩
 ·exact ⟨0, .stop hF (by show (stepF (diaB l r) (plB (diaB l r)) 2).2 = false; rw [p1]; exact s2)⟩
 ·cases hlr : (l || r) with
  | false =>
   have e : movB l r = diaB l r := by unfold movB; rw [hlr]; rfl
   refine ⟨0, ?_⟩
   show Mv (diaB l r) 3 0 (movB l r)
   rw [e]
   exact .stop hF (by rw [p1, s3]; exact hlr)
  | true =>
   refine ⟨1, .go hF (by show (stepF (diaB l r) (plB (diaB l r)) 3).2 = true; rw [p1, s3]; exact hlr) ?_⟩
   show Mv (stepF (diaB l r) (plB (diaB l r)) 3).1 3 0 (movB l r)
   rw [p1, s3]
   exact .stop hG (by rw [p2]; exact s4)
theorem ask_dia : ∀ l r : Bool, askB (diaB l r) = true ∧ askB (movB l r) = true := by decide +kernel
theorem ShapedP.run {f : PFunc} (h : ShapedP f) (h64 : ∀ b ∈ f.blocks, ∀ x ∈ b.insts, is64 x.num) : RunP f := by
 have h1 := h.1
 unfold bad1 at h1
 simp only [Bool.or_eq_false_iff, decide_eq_false_iff_not] at h1
 obtain ⟨_, _, _, _, _, h6⟩ := h
 exact ⟨by omega, fun b hb => (h6 b hb).1, fun b hb x hx => ⟨instP_F ((h6 b hb).2.1 x hx), h64 b hb x hx⟩, fun b hb => (h6 b hb).2.2⟩
theorem ShapedP.pars {f : PFunc} (h : ShapedP f) : f.params.length ≤ f.vars.length := by
 have h1 := h.1
 unfold bad1 at h1
 simp only [Bool.or_eq_false_iff, decide_eq_false_iff_not] at h1
 omega
theorem ShapedP.tys {f : PFunc} (h : ShapedP f) (j : Nat) : 0 ≤ tyL f j ∧ tyL f j ≤ 2 := by
 obtain ⟨_, _, h3, _⟩ := h
 unfold tyL
 by_cases hj : j < f.vars.length
 ·rw [qq hj]; exact ⟨(h3 j hj).2.1, (h3 j hj).2.2.1⟩
 ·rw [List.getElem?_eq_none (by omega)]; exact ⟨by decide, by decide⟩
theorem num_dia : ∀ l r : Bool, (diaB l r).blocks.all (fun b => b.insts.all fun x => decide (x.num = 0)) = true ∧ (movB l r).blocks.all (fun b => b.insts.all fun x => decide (x.num = 0)) = true := by decide +kernel
theorem num_64 {f : PFunc} (h : f.blocks.all (fun b => b.insts.all fun x => decide (x.num = 0)) = true) : ∀ b ∈ f.blocks, ∀ x ∈ b.insts, is64 x.num := fun b hb x hx => by
 rw [of_decide_eq_true (List.all_eq_true.1 (List.all_eq_true.1 h b hb) x hx)]; exact ⟨by decide, by decide⟩
theorem run_dia : ∀ l r nz way : Bool, (runM (diaB l r) nz way 20 begM).en = (runM (movB l r) nz way 20 begM).en ∧ (runM (diaB l r) nz way 20 begM).ret = (runM (movB l r) nz way 20 begM).ret ∧ (runM (diaB l r) nz way 20 begM).tr = (runM (movB l r) nz way 20 begM).tr ∧ (runM (movB l r) nz way 20 begM).ck = 1 ∧ decide ((runM (movB l r) nz way 20 begM).en = 1) = !nz := by decide +kernel
theorem blk_dia : ∀ l r : Bool, ∃ b, (movB l r).blocks[3]? = some b ∧ decide ((b.insts.length : Int) = 0) = (l || r) := by
 intro l r; cases l <;> cases r <;> exact ⟨_, rfl, rfl⟩
theorem right_dia {f : PFunc} (hA : AskP f) (n : Int) (way : Bool) : rightG f (inM n way) = 0 := by
 have hp := hA.par
 have hv := hA.ty
 have ht : ∀ j : Nat, j < 2 → ¬ tyL f j = 2 := fun j hj h => by
  have e : (f.vars.map PVar.ty)[j]? = some 2 := by
   unfold tyL at h
   rw [List.getElem?_map]
   cases he : f.vars[j]? with
   | none => rw [he] at h; simp at h
   | some v => rw [he] at h; simp at h; rw [← h]; rfl
  rw [hv] at e
  have : j = 0 ∨ j = 1 := by omega
  rcases this with rfl | rfl <;> simp at e
 unfold rightG
 rw [if_neg (by rw [hp]; simp [inM]), if_neg, if_neg (by simp [inM]), if_neg (by simp [inM])]
 intro h
 obtain ⟨⟨a, j⟩, hm, hh⟩ := List.any_eq_true.1 h
 unfold badArg at hh
 have hj : j < 2 := by
  have := List.mk_mem_zipIdx_iff_getElem?.1 hm
  exact (List.getElem?_eq_some_iff.1 this).1
 exact ht j hj (of_decide_eq_true hh).1
theorem inv_dia {f : PFunc} (hA : AskP f) (hS : ShapedP f) (h64 : ∀ b ∈ f.blocks, ∀ x ∈ b.insts, is64 x.num) {n : Int} (hn : is64 n) (way : Bool) : GInv f (begG f (inM n way)) ∧ (inM n way).args.length ≤ f.vars.length :=
 GInv.beg (hS.run h64) hS.pars hS.tys (right_dia hA n way) ⟨fun a ha => by
  simp [inM] at ha
  rcases ha with rfl | rfl
  ·exact hn
  ·exact ⟨by show _ ≤ (0 : Int); decide, by show (0 : Int) ≤ _; decide⟩, fun r hr => by simp [inM] at hr⟩
set_option maxHeartbeats 8000000 in
theorem preDiamond_law (hL : Letters E) (l r way : Bool) (n : Int) (hn6 : is64 n) : AFun prog E 6 [.bool l, .bool r, .bool way, .int .i64 n] (.bool true) := by
 obtain ⟨a1, a2⟩ := ask_dia l r
 have A1 := askP_of a1
 have A2 := askP_of a2
 obtain ⟨p1, p2⟩ := pl_dia l r
 have t2 : typedB (movB l r) = true := (and3 p2).1
 have S1 := typedB_shaped (and3 p1).1
 have S2 := typedB_shaped t2
 obtain ⟨m1, m2⟩ := small_dia l r
 obtain ⟨u1, u2⟩ := num_dia l r
 have i1 := inv_dia A1 S1 (num_64 u1) hn6 way
 have i2 := inv_dia A2 S2 (num_64 u2) hn6 way
 obtain ⟨e1, e2, e3, e4, e5⟩ := run_dia l r (!decide (n = 0)) way
 obtain ⟨o, ho⟩ : ∃ o, runM (diaB l r) (!decide (n = 0)) way 20 begM = o := ⟨_, rfl⟩
 obtain ⟨p, hp⟩ : ∃ p, runM (movB l r) (!decide (n = 0)) way 20 begM = p := ⟨_, rfl⟩
 rw [ho, hp] at e1 e2 e3
 rw [hp] at e4 e5
 have R1 : runG (diaB l r) 20 (begG (diaB l r) (inM n way)) = ofM n way o := by rw [beg_ask A1, run_ask A1 n way 20 begM (Int.le_refl _) (by show (0 : Int) < _; have := A1.pos; omega), ho]
 have R2 : runG (movB l r) 20 (begG (movB l r) (inM n way)) = ofM n way p := by rw [beg_ask A2, run_ask A2 n way 20 begM (Int.le_refl _) (by show (0 : Int) < _; have := A2.pos; omega), hp]
 have w1 := wrun_spec (E := E) (diaB l r) (inM n way) 20 (S1.run (num_64 u1)) m1.1 m1 i1.1 i1.2 (by omega)
 have w2 := wrun_spec (E := E) (movB l r) (inM n way) 20 (S2.run (num_64 u2)) m2.1 m2 i2.1 i2.2 (by omega)
 rw [R1] at w1
 rw [R2] at w2
 have wa := alike_spec (E := E) (ofM n way o) (ofM n way p) (by show 0 ≤ _; omega)
 rw [show alikeG (ofM n way o) (ofM n way p) = true from w3 ⟨e1, by show (if o.ret = true then n else 0) = _; rw [e2]; rfl, e3, rfl⟩] at wa
 have wr := rightG_spec (E := E) (movB l r) (inM n way) S2.pars (by show 2 ≤ _; omega) (by show 0 ≤ _; omega)
 rw [right_dia A2] at wr
 have hT := lawTyped8_spec (E := E) (movB l r) m2 hL
 rw [t2] at hT
 have hM := Move_spec (E := E) (diaB l r) m1 hL p1 (trB l r) rfl (tr_dia l r)
 obtain ⟨B, hB, hBl⟩ := blk_dia l r
 have hck : ckM p.ck 3 = 1 := by rw [e4]; rfl
 refine zo func6 rfl (by decide) rfl<|zSr<|z2 (zAb rfl)<|z6<|zd<|zSr<|zf (lives36_spec hL) rfl<|z2 (yl rfl)<|z6<|ym rfl rfl<|zh<|zSr<|z2 (zMb rfl)<|z2 (zMb rfl)<|zf (diamond_s l r) rfl<|zy (cs := [.raw (.slice none 0 0), .raw (.slice none 0 0), .raw (.slice none 0 0)]) zeroValue26 rfl rfl<|fun i9 => zq sizeOf26 rfl rfl rfl rfl rfl rfl .head rfl<|zc (yk (t := 9) rfl .head)<|z6<|zSr<|z2 (zp isAgg26 sizeOf26 rfl rfl)<|zf (hM) rfl<|z2 (zMu rfl)<|z2 (Gv.extract (v := .agg _) rfl rfl)<|z2 (zXi rfl rfl)<|zy (cs := [.raw (.slice none 0 0), .raw (.slice none 0 0), .raw (.slice none 0 0)]) zeroValue26 rfl rfl<|fun i10 => zq sizeOf26 rfl rfl rfl rfl rfl rfl .head rfl<|zc (yk (t := 10) rfl .head)<|z2 (zAi rfl)<|z6<|zSr<|z2 (zMi rfl)<|z2 (zx (cps := [(0, [_])]) (rs := [_, .bool false, .int .i64 0]) pl66 rfl rfl rfl)<|z2 (zMb rfl)<|z2 (zx (cps := [(1, [_])]) (rs := [.int .i64 0, _, .int .i64 0]) pl66 rfl rfl rfl)<|zw (rows := [[_, _, _], [_, _, _]]) ps34_2 rfl rfl rfl rfl rfl<|z2 (zx (cps := [(0, [_])]) (rs := [_, .raw (.slice none 0 0)]) pl37 rfl rfl rfl)<|zc (GStep.slot (t := 30) rfl (Imp.agg (.cons (.refl _) (.cons (.nil 1) .nil))))<|zy (cs := [.raw (.slice none 0 0), .raw (.slice none 0 0)]) zeroValue37 rfl rfl ?_
 intro i12
 refine zq sizeOf37 rfl rfl rfl rfl rfl rfl .head rfl<|zc (yk (t := 12) rfl .head)<|z6<|zd<|zSr<|z2 (zMi rfl)<|z2 (yj rfl rfl)<|z2 (zMb rfl)<|z8 rfl rfl rfl<|z2 (zp isAgg26 sizeOf26 rfl rfl)<|z8 rfl rfl rfl<|zf (hT) rfl<|z8 rfl rfl rfl<|z2 (yl rfl)<|z2 (zPf rfl rfl rfl)<|z2 (zMb rfl)<|z8 rfl rfl rfl<|z2 (zp isAgg26 sizeOf26 rfl rfl)<|z8 rfl rfl rfl<|z2 (zp isAgg37 sizeOf37 rfl rfl)<|z8 rfl rfl rfl<|zf (wr) rfl<|z8 rfl rfl rfl<|z2 (yj rfl rfl)<|z2 (zPf rfl rfl rfl)<|z6<|ym rfl rfl<|zh<|zd<|yp (γ := Nat × Nat) [0, 1, 3, 10] (fun g => [(13, .po g.1 0), (14, .po g.2 0)]) (fun g => [(g.1, .cells 45 (encOut (ofM n way o))), (g.2, .cells 45 (encOut (ofM n way p)))]) (fun g => True) ?_ (fun _ _ h => h) ?_
 ·refine zu (fun j => Nat.beq j 8 || Nat.beq j 9) (by kernel_rfl) rfl (zm (.rest _))<|zTk 0 rfl (zp isAgg26 sizeOf26 rfl rfl)<|zTk 1 rfl (zp isAgg37 sizeOf37 rfl rfl)<|yr (i := 3) rfl (by kernel_rfl) (by kernel_rfl) (by kernel_rfl) (by kernel_rfl) (zp isAgg26 sizeOf26 rfl rfl)<|yr (i := 4) rfl (by kernel_rfl) (by kernel_rfl) (by kernel_rfl) (by kernel_rfl) (zp isAgg37 sizeOf37 rfl rfl)<|ql (i := 2) (j := 6) (m := 7) rfl rfl rfl (by kernel_rfl) ?_ ?_ ?_
  ·refine zf (w1) rfl<|z6<|ql (i := 5) (j := 6) (m := 7) rfl rfl rfl (by kernel_rfl) ?_ ?_ ?_
   ·refine zf (w2) rfl<|z6<|yh (i := 6) (j := 7) rfl rfl (by kernel_rfl) ?_ ?_
    ·refine zy (cs := [.int .i64 0, .int .i64 0, .int .i64 0, .raw (.slice none 0 0), .int .i64 0, .int .i64 0, .int .i64 0, .int .i64 0, .int .i64 0, .int .i64 0, .int .i64 0, .int .i64 0, .int .i64 0]) zeroValue45 rfl rfl<|fun i13 => z6<|zOn 7 rfl<|zy (cs := [.int .i64 0, .int .i64 0, .int .i64 0, .raw (.slice none 0 0), .int .i64 0, .int .i64 0, .int .i64 0, .int .i64 0, .int .i64 0, .int .i64 0, .int .i64 0, .int .i64 0, .int .i64 0]) zeroValue45 rfl rfl<|fun i14 => z6<|y8<|ya (i := 8) rfl (by kernel_rfl) (by kernel_rfl)<|zq sizeOf45 rfl rfl rfl rfl rfl rfl .t1 rfl<|z6<|ya (i := 9) rfl (by kernel_rfl) (by kernel_rfl)<|zq sizeOf45 rfl rfl rfl rfl rfl rfl .head rfl<|zc (za (zb .head))<|zc (za (zb .t1))<|z6<|yd (by kernel_rfl) ?_
     exact ⟨(i13, i14), zR4, zR2, zLe, trivial⟩
    ·refine zy (cs := [.int .i64 0, .int .i64 0, .int .i64 0, .raw (.slice none 0 0), .int .i64 0, .int .i64 0, .int .i64 0, .int .i64 0, .int .i64 0, .int .i64 0, .int .i64 0, .int .i64 0, .int .i64 0]) zeroValue45 rfl rfl<|fun i14 => z6<|zOn 6 rfl<|zy (cs := [.int .i64 0, .int .i64 0, .int .i64 0, .raw (.slice none 0 0), .int .i64 0, .int .i64 0, .int .i64 0, .int .i64 0, .int .i64 0, .int .i64 0, .int .i64 0, .int .i64 0, .int .i64 0]) zeroValue45 rfl rfl<|fun i13 => z6<|y8<|ya (i := 8) rfl (by kernel_rfl) (by kernel_rfl)<|zq sizeOf45 rfl rfl rfl rfl rfl rfl .head rfl<|z6<|ya (i := 9) rfl (by kernel_rfl) (by kernel_rfl)<|zq sizeOf45 rfl rfl rfl rfl rfl rfl .t1 rfl<|z6<|yd (by kernel_rfl) ?_
     exact ⟨(i13, i14), zR4, zR2, zLe, trivial⟩
   ·refine zy (cs := [.int .i64 0, .int .i64 0, .int .i64 0, .raw (.slice none 0 0), .int .i64 0, .int .i64 0, .int .i64 0, .int .i64 0, .int .i64 0, .int .i64 0, .int .i64 0, .int .i64 0, .int .i64 0]) zeroValue45 rfl rfl<|fun i13 => z6<|yh (i := 5) (j := 7) rfl rfl (by kernel_rfl) ?_ ?_
    ·refine zf (w2) rfl<|z6<|zOn 7 rfl<|zy (cs := [.int .i64 0, .int .i64 0, .int .i64 0, .raw (.slice none 0 0), .int .i64 0, .int .i64 0, .int .i64 0, .int .i64 0, .int .i64 0, .int .i64 0, .int .i64 0, .int .i64 0, .int .i64 0]) zeroValue45 rfl rfl<|fun i14 => z6<|y8<|ya (i := 8) rfl (by kernel_rfl) (by kernel_rfl)<|zq sizeOf45 rfl rfl rfl rfl rfl rfl .t1 rfl<|z6<|ya (i := 9) rfl (by kernel_rfl) (by kernel_rfl)<|zq sizeOf45 rfl rfl rfl rfl rfl rfl .head rfl<|zc (za (zb .head))<|zc (za (zb .t1))<|z6<|yd (by kernel_rfl) ?_
     exact ⟨(i13, i14), zR4, zR2, zLe, trivial⟩
    ·refine zy (cs := [.int .i64 0, .int .i64 0, .int .i64 0, .raw (.slice none 0 0), .int .i64 0, .int .i64 0, .int .i64 0, .int .i64 0, .int .i64 0, .int .i64 0, .int .i64 0, .int .i64 0, .int .i64 0]) zeroValue45 rfl rfl<|fun i14 => z6<|zOn 5 rfl<|zf (w2) rfl<|z6<|y8<|ya (i := 8) rfl (by kernel_rfl) (by kernel_rfl)<|zq sizeOf45 rfl rfl rfl rfl rfl rfl .t1 rfl<|z6<|ya (i := 9) rfl (by kernel_rfl) (by kernel_rfl)<|zq sizeOf45 rfl rfl rfl rfl rfl rfl .head rfl<|zc (za (zb .head))<|zc (za (zb .t1))<|z6<|yd (by kernel_rfl) ?_
     exact ⟨(i13, i14), zR4, zR2, zLe, trivial⟩
   ·refine zy (cs := [.int .i64 0, .int .i64 0, .int .i64 0, .raw (.slice none 0 0), .int .i64 0, .int .i64 0, .int .i64 0, .int .i64 0, .int .i64 0, .int .i64 0, .int .i64 0, .int .i64 0, .int .i64 0]) zeroValue45 rfl rfl<|fun i14 => z6<|yh (i := 5) (j := 6) rfl rfl (by kernel_rfl) ?_ ?_
    ·refine zf (w2) rfl<|z6<|zOn 6 rfl<|zy (cs := [.int .i64 0, .int .i64 0, .int .i64 0, .raw (.slice none 0 0), .int .i64 0, .int .i64 0, .int .i64 0, .int .i64 0, .int .i64 0, .int .i64 0, .int .i64 0, .int .i64 0, .int .i64 0]) zeroValue45 rfl rfl<|fun i13 => z6<|y8<|ya (i := 8) rfl (by kernel_rfl) (by kernel_rfl)<|zq sizeOf45 rfl rfl rfl rfl rfl rfl .head rfl<|z6<|ya (i := 9) rfl (by kernel_rfl) (by kernel_rfl)<|zq sizeOf45 rfl rfl rfl rfl rfl rfl .t1 rfl<|z6<|yd (by kernel_rfl) ?_
     exact ⟨(i13, i14), zR4, zR2, zLe, trivial⟩
    ·refine zy (cs := [.int .i64 0, .int .i64 0, .int .i64 0, .raw (.slice none 0 0), .int .i64 0, .int .i64 0, .int .i64 0, .int .i64 0, .int .i64 0, .int .i64 0, .int .i64 0, .int .i64 0, .int .i64 0]) zeroValue45 rfl rfl<|fun i13 => z6<|zOn 5 rfl<|zf (w2) rfl<|z6<|y8<|ya (i := 8) rfl (by kernel_rfl) (by kernel_rfl)<|zq sizeOf45 rfl rfl rfl rfl rfl rfl .head rfl<|z6<|ya (i := 9) rfl (by kernel_rfl) (by kernel_rfl)<|zq sizeOf45 rfl rfl rfl rfl rfl rfl .t1 rfl<|z6<|yd (by kernel_rfl) ?_
     exact ⟨(i13, i14), zR4, zR2, zLe, trivial⟩
  ·refine zy (cs := [.int .i64 0, .int .i64 0, .int .i64 0, .raw (.slice none 0 0), .int .i64 0, .int .i64 0, .int .i64 0, .int .i64 0, .int .i64 0, .int .i64 0, .int .i64 0, .int .i64 0, .int .i64 0]) zeroValue45 rfl rfl<|fun i13 => z6<|yh (i := 2) (j := 7) rfl rfl (by kernel_rfl) ?_ ?_
   ·refine zf (w1) rfl<|z6<|yh (i := 5) (j := 7) rfl rfl (by kernel_rfl) ?_ ?_
    ·refine zf (w2) rfl<|z6<|zOn 7 rfl<|zy (cs := [.int .i64 0, .int .i64 0, .int .i64 0, .raw (.slice none 0 0), .int .i64 0, .int .i64 0, .int .i64 0, .int .i64 0, .int .i64 0, .int .i64 0, .int .i64 0, .int .i64 0, .int .i64 0]) zeroValue45 rfl rfl<|fun i14 => z6<|y8<|ya (i := 8) rfl (by kernel_rfl) (by kernel_rfl)<|zq sizeOf45 rfl rfl rfl rfl rfl rfl .t1 rfl<|z6<|ya (i := 9) rfl (by kernel_rfl) (by kernel_rfl)<|zq sizeOf45 rfl rfl rfl rfl rfl rfl .head rfl<|zc (za (zb .head))<|zc (za (zb .t1))<|z6<|yd (by kernel_rfl) ?_
     exact ⟨(i13, i14), zR4, zR2, zLe, trivial⟩
    ·refine zy (cs := [.int .i64 0, .int .i64 0, .int .i64 0, .raw (.slice none 0 0), .int .i64 0, .int .i64 0, .int .i64 0, .int .i64 0, .int .i64 0, .int .i64 0, .int .i64 0, .int .i64 0, .int .i64 0]) zeroValue45 rfl rfl<|fun i14 => z6<|zOn 5 rfl<|zf (w2) rfl<|z6<|y8<|ya (i := 8) rfl (by kernel_rfl) (by kernel_rfl)<|zq sizeOf45 rfl rfl rfl rfl rfl rfl .t1 rfl<|z6<|ya (i := 9) rfl (by kernel_rfl) (by kernel_rfl)<|zq sizeOf45 rfl rfl rfl rfl rfl rfl .head rfl<|zc (za (zb .head))<|zc (za (zb .t1))<|z6<|yd (by kernel_rfl) ?_
     exact ⟨(i13, i14), zR4, zR2, zLe, trivial⟩
   ·refine zy (cs := [.int .i64 0, .int .i64 0, .int .i64 0, .raw (.slice none 0 0), .int .i64 0, .int .i64 0, .int .i64 0, .int .i64 0, .int .i64 0, .int .i64 0, .int .i64 0, .int .i64 0, .int .i64 0]) zeroValue45 rfl rfl<|fun i14 => z6<|zOn 2 rfl<|zf (w1) rfl<|z6<|zOn 5 rfl<|zf (w2) rfl<|z6<|y8<|ya (i := 8) rfl (by kernel_rfl) (by kernel_rfl)<|zq sizeOf45 rfl rfl rfl rfl rfl rfl .t1 rfl<|z6<|ya (i := 9) rfl (by kernel_rfl) (by kernel_rfl)<|zq sizeOf45 rfl rfl rfl rfl rfl rfl .head rfl<|zc (za (zb .head))<|zc (za (zb .t1))<|z6<|yd (by kernel_rfl) ?_
    exact ⟨(i13, i14), zR4, zR2, zLe, trivial⟩
  ·refine zy (cs := [.int .i64 0, .int .i64 0, .int .i64 0, .raw (.slice none 0 0), .int .i64 0, .int .i64 0, .int .i64 0, .int .i64 0, .int .i64 0, .int .i64 0, .int .i64 0, .int .i64 0, .int .i64 0]) zeroValue45 rfl rfl<|fun i14 => z6<|yh (i := 2) (j := 6) rfl rfl (by kernel_rfl) ?_ ?_
   ·refine zf (w1) rfl<|z6<|yh (i := 5) (j := 6) rfl rfl (by kernel_rfl) ?_ ?_
    ·refine zf (w2) rfl<|z6<|zOn 6 rfl<|zy (cs := [.int .i64 0, .int .i64 0, .int .i64 0, .raw (.slice none 0 0), .int .i64 0, .int .i64 0, .int .i64 0, .int .i64 0, .int .i64 0, .int .i64 0, .int .i64 0, .int .i64 0, .int .i64 0]) zeroValue45 rfl rfl<|fun i13 => z6<|y8<|ya (i := 8) rfl (by kernel_rfl) (by kernel_rfl)<|zq sizeOf45 rfl rfl rfl rfl rfl rfl .head rfl<|z6<|ya (i := 9) rfl (by kernel_rfl) (by kernel_rfl)<|zq sizeOf45 rfl rfl rfl rfl rfl rfl .t1 rfl<|z6<|yd (by kernel_rfl) ?_
     exact ⟨(i13, i14), zR4, zR2, zLe, trivial⟩
    ·refine zy (cs := [.int .i64 0, .int .i64 0, .int .i64 0, .raw (.slice none 0 0), .int .i64 0, .int .i64 0, .int .i64 0, .int .i64 0, .int .i64 0, .int .i64 0, .int .i64 0, .int .i64 0, .int .i64 0]) zeroValue45 rfl rfl<|fun i13 => z6<|zOn 5 rfl<|zf (w2) rfl<|z6<|y8<|ya (i := 8) rfl (by kernel_rfl) (by kernel_rfl)<|zq sizeOf45 rfl rfl rfl rfl rfl rfl .head rfl<|z6<|ya (i := 9) rfl (by kernel_rfl) (by kernel_rfl)<|zq sizeOf45 rfl rfl rfl rfl rfl rfl .t1 rfl<|z6<|yd (by kernel_rfl) ?_
     exact ⟨(i13, i14), zR4, zR2, zLe, trivial⟩
   ·refine zy (cs := [.int .i64 0, .int .i64 0, .int .i64 0, .raw (.slice none 0 0), .int .i64 0, .int .i64 0, .int .i64 0, .int .i64 0, .int .i64 0, .int .i64 0, .int .i64 0, .int .i64 0, .int .i64 0]) zeroValue45 rfl rfl<|fun i13 => z6<|zOn 2 rfl<|zf (w1) rfl<|z6<|zOn 5 rfl<|zf (w2) rfl<|z6<|y8<|ya (i := 8) rfl (by kernel_rfl) (by kernel_rfl)<|zq sizeOf45 rfl rfl rfl rfl rfl rfl .head rfl<|z6<|ya (i := 9) rfl (by kernel_rfl) (by kernel_rfl)<|zq sizeOf45 rfl rfl rfl rfl rfl rfl .t1 rfl<|z6<|yd (by kernel_rfl) ?_
    exact ⟨(i13, i14), zR4, zR2, zLe, trivial⟩
 ·rintro ⟨i13, i14⟩ _
  refine yc (yk (t := 13) rfl .head)<|yc (yk (t := 14) rfl .head)<|zd<|zSr<|z2 (zp isAgg45 sizeOf45 rfl rfl)<|z2 (zp isAgg45 sizeOf45 rfl rfl)<|zf (wa) rfl<|z2 (yl rfl)<|z2 (zMb rfl)<|z8 rfl rfl rfl<|z2 (zFF underlying45 rfl sizeOf43 rfl rfl)<|z8 rfl rfl rfl<|z2 (q3 (j := 3) underlying43 sizeOf3 rfl rfl rfl (by decide) rfl)<|z8 rfl rfl rfl<|z2 (zLi isAgg3 rfl)<|z8 rfl rfl rfl<|z2 (yj rfl rfl)<|z2 (zPf rfl rfl rfl)<|z2 (zMb rfl)<|z8 rfl rfl (by show (!decide (((ckM p.ck 3 : Nat) : Int) = 1)) = false; rw [hck]; rfl)<|z2 (zFF underlying45 rfl sizeOf40 rfl rfl)<|z8 rfl rfl (by show (!decide (((ckM p.ck 3 : Nat) : Int) = 1)) = false; rw [hck]; rfl)<|z2 (zLi isAgg40 rfl)<|z8 rfl rfl (by show (!decide (((ckM p.ck 3 : Nat) : Int) = 1)) = false; rw [hck]; rfl)<|z2 (y7 rfl rfl)<|z8 rfl rfl (by show (!decide (((ckM p.ck 3 : Nat) : Int) = 1)) = false; rw [hck]; rfl)<|z2 (zMi rfl)<|z8 rfl rfl (by show (!decide (((ckM p.ck 3 : Nat) : Int) = 1)) = false; rw [hck]; rfl)<|z2 (y7 rfl rfl)<|z8 rfl rfl (by show (!decide (((ckM p.ck 3 : Nat) : Int) = 1)) = false; rw [hck]; rfl)<|z2 (Gv.neqB underlying4 rfl rfl)<|z2 (zPf rfl (by show (!decide (((ckM p.ck 3 : Nat) : Int) = 1)) = false; rw [hck]; rfl) rfl)<|z6<|ym rfl (by show (decide (p.en = 1) != decide (n = 0)) = false; rw [e5]; cases decide (n = 0) <;> rfl)<|zh<|zSr<|z2 (zMb rfl)<|z2 (zMb rfl)<|zt (s := 69) rfl (fun cl=>?_) (fun cl=>?_)
  ·have cl2 : l = true := cl
   rw [cl2] at hBl
   refine z7 rfl rfl cl<|z2 (zPt rfl cl rfl)<|z2 (zFF underlying26 rfl sizeOf24 rfl rfl)<|z2 (zLf isAgg24 rfl)<|z2 (zIM 3 underlying24 sizeOf58 rfl rfl rfl hB)<|z2 (zFF underlying58 rfl sizeOf52 rfl rfl)<|z2 (zLf isAgg52 rfl)<|z2 (y2 underlying52 rfl)<|z2 (y7 rfl rfl)<|z2 (Gv.eqlB underlying4 rfl rfl)<|z2 (zAb rfl)<|z6<|zg<|zk (x := .bool _) rfl ?_
   exact congrArg AV.bool (by rw [hBl]; rfl)
  ·have cl2 : l = false := cl
   rw [cl2] at hBl
   refine z8 rfl rfl cl<|z2 (zMb rfl)<|z2 (zPf rfl cl rfl)<|z2 (zFF underlying26 rfl sizeOf24 rfl rfl)<|z2 (zLf isAgg24 rfl)<|z2 (zIM 3 underlying24 sizeOf58 rfl rfl rfl hB)<|z2 (zFF underlying58 rfl sizeOf52 rfl rfl)<|z2 (zLf isAgg52 rfl)<|z2 (y2 underlying52 rfl)<|z2 (y7 rfl rfl)<|z2 (Gv.eqlB underlying4 rfl rfl)<|z2 (zAb rfl)<|z6<|zg<|zk (x := .bool _) rfl ?_
   exact congrArg AV.bool (by rw [hBl]; cases r <;> rfl)
end Go.Proofs.YtiojekbkamegdaaGreatDoor
namespace Go.Proofs.YtiojekbkamegdaaGreatDoor
open Go.Proofs.Tryz
open Go.Proofs Go.Lib Go.Shelf Go.RowKit Go.WideShapes
set_option maxRecDepth 20000
variable {W : World}
theorem of_num {H : Type} {enc : TypeId × Value → H} {held : Bool} {T : TypeId} {base : Nat} {v : Value} {d : DataW H} {p : List MemPlace} (ht : prog.underlying T = some (.int .i64))
  (hv : Value.okWide prog W .any base T v) (h : DataW.Trod enc prog W 0 (fun _ => true) held T v d p) : ∃ n : Int, is64 n ∧ v = .int .i64 n := by
 obtain ⟨n, rfl⟩ := okWide_int ht hv
 obtain ⟨fuel, h⟩ := h
 obtain ⟨m, h1, h2⟩ := Dec.int ht enc held fuel _ _ h
 obtain ⟨v, _, e, h2, h3⟩ := h2
 cases e
 cases h2
 exact ⟨n, by simpa [is64, Lit.wf, IntKind.min, IntKind.max, IntKind.signed, IntKind.bits] using h1, rfl⟩
theorem xTab : RExtra prog Tryz.lays200_ren := ⟨by kernel_rfl, by kernel_rfl, by kernel_rfl, by kernel_rfl, by kernel_rfl, by kernel_rfl, by kernel_rfl, by kernel_rfl⟩
theorem letters_of (h : Lib.VarReads prog W "unicode.properties" (Lib.tabData .u8 Lib.propertiesTab)) (h2 : Lib.VarReads prog W "unicode.Letter" (Lib.rtabData letterT)) : Letters W :=
 ⟨tabIs_of_reads (g := 0) (by kernel_rfl) (by kernel_rfl) underlying300 underlying5 (by kernel_rfl) (by kernel_rfl) h,
  rvar_of_reads { Tryz.lays200 with } xTab (name := "unicode.Letter") (g := 1) (by kernel_rfl) (by kernel_rfl) h2⟩
end Go.Proofs.YtiojekbkamegdaaGreatDoor
namespace Go.Proofs.YtiojekbkamegdaaGreatDoor
open Go.Proofs.Tryz
open Go.Proofs
theorem fMay : prog.mayEnter = true := by kernel_rfl
theorem fLift : (Rows.preDiamondRow.lifted == prog.liftsFinal) = true := by kernel_rfl
theorem fMake : (prog.make == some Rows.preDiamondRow.make) = true := by kernel_rfl
theorem fLaid : laidOutB prog = true := by kernel_rfl
theorem fRow : mapsRowed prog = true := by kernel_rfl
theorem fStop : (prog.stops == []) = true := by kernel_rfl
theorem fKnob : (prog.stopKnobs == []) = true := by kernel_rfl
theorem fKeys : (Rows.preDiamondRow.plainKeys == prog.plainKeys) = true := by kernel_rfl
theorem fHeard : prog.stopsHeard = true := by kernel_rfl
theorem gIn : (Rows.preDiamondRow.inPlace == prog.inPlace 6) = true := by kernel_rfl
theorem gUn : (Rows.preDiamondRow.unfollowed == prog.unfollowed 6) = true := by kernel_rfl
theorem gRec : (Rows.preDiamondRow.recurses == prog.recurses 6) = true := by kernel_rfl
theorem gNam : (Rows.preDiamondRow.named == prog.varsNamed 6) = true := by kernel_rfl
theorem closed : joinedFacts prog 6 Tryz.f6 Rows.preDiamondSpec Rows.preDiamondRow = true := by
 unfold joinedFacts
 rw [fLaid, fRow, fStop, fKnob, gIn, gUn, gRec, gNam, fKeys, fHeard, fMay, fLift, fMake]
 kernel_rfl
end Go.Proofs.YtiojekbkamegdaaGreatDoor
namespace Go.Proofs.YtiojekbkamegdaaGreatDoor
open Go.Proofs.Tryz
open Go.Proofs Go.Lib Go.Shelf Go.RowKit Go.WideShapes
variable {W : World}
set_option maxRecDepth 20000
theorem of_bool {T : TypeId} {base : Nat} {v : Value} (ht : prog.underlying T = some .bool) (hv : Value.okWide prog W .any base T v) : ∃ b : Bool, v = .bool b := okWide_bool ht hv
end Go.Proofs.YtiojekbkamegdaaGreatDoor
