/- A table of edges, filled: what an instruction puts into it. Of programs that are little. -/
import Derived.Test.YtjnpcfpecilejaaGreatDoorHp
set_option linter.unusedVariables false
set_option linter.unusedSimpArgs false
set_option linter.unusedSectionVars false
namespace Go.Proofs.YtjnpcfpecilejaaGreatDoor
open Go.Proofs.Tryz
open Go.Proofs Go.Lib Go.Shelf Go.RowKit
theorem pl53 : Places prog 53 #[(0, 1), (1, 1), (2, 1)] [.int .i64 0, .int .i64 0, .int .i64 0] := ⟨_, _, underlying53, zeroValue53, fun w => by kernel_rfl, rfl⟩
variable {E : World}
set_option maxRecDepth 20000
def tabO (f : PFunc) (l : List Rng) (up : Bool) (i io : Nat) (es : List Ejk) : OL := [(i, .cells 171 (tblL f l up (.own io es.length))), (io, .grow 3 53 (eC es))]
def tabQ (f : PFunc) (l : List Rng) (up : Bool) (i : Nat) (es : List Ejk) : AV → OL → Prop := fun y O => ∃ io : Nat, y = .tup [] ∧ O = tabO f l up i io es ∧ True
def tabW (f : PFunc) (l : List Rng) (up : Bool) (i : Nat) (es : List Ejk) : AV → OL → Prop := fun y O => ∃ io : Nat, y = .tup [] ∧ Left O (tabO f l up i io es) ∧ True
theorem ACall.tab {g : FuncId} {ars : List AV} {O : OL} {f : PFunc} {l : List Rng} {up : Bool} {i : Nat} {es : List Ejk} (h : ACall prog E g ars O (tabW f l up i es)) : ACall prog E g ars O (tabQ f l up i es) :=
 ACall.exact (γ := Nat) (x := fun _ => .tup []) (M := fun jo => tabO f l up i jo es) (p := fun _ => True) h
theorem tabW.of {f : PFunc} {l : List Rng} {up : Bool} {i io : Nat} {es es' : List Ejk} {O : OL} (h : es = es') (ho : Left O (tabO f l up i io es)) : tabW f l up i es' (.tup []) O := ⟨io, rfl, h ▸ ho, trivial⟩
theorem put_spec (f : PFunc) (l : List Rng) (up : Bool) (i io : Nat) (es : List Ejk) (hb : es.length ≤ 100000000) (to from_ by_ : Int) :
  ACall prog E 155 [.po i 0, .int .i64 to, .int .i64 from_, .int .i64 by_] (tabO f l up i io es) (tabQ f l up i (es ++ [(from_, to, by_)])) := by
 refine ACall.tab ?_
 unfold tabO tblL
 refine zo func155 rfl (by decide) rfl<|zRg<|z2 (zMp rfl)<|z2 (zMp rfl)<|z2 (ya rfl)<|z2 (zu underlying171 rfl sizeOf42 (by decide) rfl rfl)<|z2 (zy (c := .own _ _) isAgg42 rfl ⟨_, .head⟩ rfl)<|z2 (zMi rfl)<|z2 (zMi rfl)<|z2 (zMi rfl)<|z2 (y5 (cps := [(0, [_]), (1, [_]), (2, [_])]) (rs := [_, _, _]) pl53 rfl rfl rfl)<|zw (rows := [[_, _, _]]) ps42_1 rfl rfl rfl rfl rfl<|yl (k := 3) underlying42 type53 rfl rfl rfl rfl rfl (fun _ => .t1) (by rw [eC_len]) (by decide) rfl (by show (_ + 1) * 24 ≤ _; omega) (by show _ + 1 ≤ _; omega)<|fun i18 => z2 (ya rfl)<|z2 (zu underlying171 rfl sizeOf42 (by decide) rfl rfl)<|qg (l := [_]) (new := [_, _, _, _, _, _, _, _]) sizeOf42 rfl rfl rfl rfl rfl rfl .head rfl rfl<|z6<|GStep.fin (zg (zi .head))<|ym ?_
 exact ⟨i18, rfl, ⟨_, .refl _, by unfold tabO; rw [← eC_push, qp]; rfl⟩, trivial⟩
theorem endL_spec (f : PFunc) (hS : ShapedP f) (l : List Rng) (hll : l.length = f.vars.length) (up : Bool) (i : Nat) (X : AV) {a : Int} (ha : hasV f a = true) (other : Bool) :
  ACall prog E 154 [.po i 0, .int .i64 a, .bool other] [(i, .cells 171 (tblL f l up X))] fun y O => y = .tup [.int .i64 (endN f l up a other), .bool (toldB (ofR f l a) (endN f l up a other))] ∧ O = [(i, .cells 171 (tblL f l up X))] :=
 ACall.lendP (fun _ _ _ h => tup2_any h) (tend_spec f hS l hll up X ha other)
theorem endE_t {f : PFunc} {l : List Rng} {up : Bool} {v : Int} {o : Bool} {a b : Int} {t : Bool} (h : toldB (ofR f l v) (endN f l up v o) = t) : endE f l up v o a b 1 = if t = true then [(b, a, endN f l up v o)] else [] := by
 unfold endE putIf; rw [h, Int.one_mul]
theorem endE_m {f : PFunc} {l : List Rng} {up : Bool} {v : Int} {o : Bool} {a b : Int} {t : Bool} (ho : ok64 (ofR f l v)) (h : toldB (ofR f l v) (endN f l up v o) = t) : endE f l up v o a b (-1) = if t = true then [(b, a, IntKind.i64.wrap (0 - endN f l up v o))] else [] := by
 unfold endE putIf
 rw [h]
 cases t
 ·rfl
 ·have h1 := ho.1; have h2 := ho.2
  have hne : endN f l up v o ≠ m64 := by
   unfold toldB at h
   simp only [qw, w4] at h
   exact h.2.1
  have hr : is64 (endN f l up v o) := by unfold endN; split; exact h2; exact h1
  rw [wrap_fit (by unfold is64 m64 at *; omega)]
  simp only [if_true]
  congr 3
  omega
theorem town_spec (f : PFunc) (hS : ShapedP f) (l : List Rng) (hll : l.length = f.vars.length) (up : Bool) (i io : Nat) (es : List Ejk) (hb : es.length ≤ 90000000) {a : Int} (ha : hasV f a = true) :
  ACall prog E 104 [.po i 0, .int .i64 a] (tabO f l up i io es) (tabQ f l up i (es ++ ownE f l up a)) := by
 have he := fun X => endL_spec (E := E) f hS l hll up i X ha false
 obtain ⟨t, ht⟩ : ∃ t, toldB (ofR f l a) (endN f l up a false) = t := ⟨_, rfl⟩
 rw [show ownE f l up a = _ from endE_t ht]
 rw [ht] at he
 refine ACall.tab ?_
 unfold tabO tblL
 refine zo func104 rfl (by decide) rfl<|zSr<|z2 (zMp rfl)<|z2 (zMi rfl)<|zt rfl (zn (.l (.r (.rest _)))) (he _) ?_
 rintro r9 O9 ⟨rfl, rfl⟩
 refine z2 (zMu rfl)<|z2 (zXi rfl rfl)<|z2 (zXb rfl rfl)<|z2 (zAi rfl)<|z2 (zAb rfl)<|z6<|zSr<|z2 (zMb rfl)<|z6<|zr rfl (fun c=>?_) (fun c=>?_)
 ·refine zRg<|z2 (zMp rfl)<|z2 (zMi rfl)<|z2 (zMp rfl)<|z2 (ya rfl)<|z2 (zu underlying171 rfl sizeOf3 (by decide) rfl rfl)<|z2 (zy (c := .int _ _) isAgg3 rfl ⟨_, .head⟩ rfl)<|z2 (zMi rfl)<|zt rfl (zn (.l (.l (.rest _)))) (put_spec f l up i io es (by omega) a (n0 f) (endN f l up a false)) ?_
  rintro r20 O20 ⟨jo, rfl, rfl, _⟩
  refine z6<|ym ?_
  exact tabW.of (by rw [if_pos c]) ⟨_, .refl _, rfl⟩
 ·refine zc<|ym ?_
  exact tabW.of (io := io) (by rw [if_neg (by rw [show t = false from c]; decide), qt]) ⟨_, .refl _, rfl⟩
set_option maxHeartbeats 4000000 in
theorem tsum_spec (f : PFunc) (hf : small f) (hS : ShapedP f) (hE : EndsOk f) (l : List Rng) (hll : l.length = f.vars.length) (hok : ∀ u : Int, 0 ≤ u → ok64 (lv l u)) (up : Bool) (i io : Nat) (es : List Ejk) (hb : es.length ≤ 90000000) (x : PInst) (ho : x.op = 2 ∨ x.op = 3) {xa xb : Int} (hxa : x.args = [xa, xb]) (ha : hasV f xa = true) (hb2 : hasV f xb = true) (block at_ : Nat) :
  ACall prog E 156 [.po i 0, .agg (encInst x), .int .i64 block, .int .i64 at_] (tabO f l up i io es) (tabQ f l up i (es ++ sumE f l up x block at_)) := by
 have ha0 := (hasV_rng ha).1
 have hb0 := (hasV_rng hb2).1
 have e0 : x0 x = xa := by unfold x0; rw [hxa]; rfl
 have e1 : x1 x = xb := by unfold x1; rw [hxa]; rfl
 have hofa := fun X => ACall.lendP (E := E) (i := i) (T := 171) (fun _ _ _ h => encZ_any h) (tof_spec f hS l hll up X ha)
 have hofb := fun X => ACall.lendP (E := E) (i := i) (T := 171) (fun _ _ _ h => encZ_any h) (tof_spec f hS l hll up X hb2)
 have hchk := fun X => ACall.lendP (E := E) (i := i) (T := 171) (fun _ _ _ h => bool_any h) (tchk_spec f hf hS hE l up X x ho hxa block at_)
 have hfit := iFits (E := E) x.op (x.op - 2).toNat (by omega) (by omega) (ofR_ok (f := f) hok ha0) (ofR_ok (f := f) hok hb0)
 obtain ⟨F, hF⟩ : ∃ F, fitsX f l x = F := ⟨_, rfl⟩
 obtain ⟨C, hC⟩ : ∃ C, chkX f x block at_ = C := ⟨_, rfl⟩
 have hF2 := hF
 unfold fitsX at hF2
 rw [e0, e1] at hF2
 rw [hF2] at hfit
 rw [hC] at hchk
 have het := fun X => endL_spec (E := E) f hS l hll up i X hb2 true
 have heb := fun X => endL_spec (E := E) f hS l hll up i X hb2 false
 have hea := fun X => endL_spec (E := E) f hS l hll up i X ha false
 obtain ⟨tt, htt⟩ : ∃ t, toldB (ofR f l xb) (endN f l up xb true) = t := ⟨_, rfl⟩
 obtain ⟨tb, htb⟩ : ∃ t, toldB (ofR f l xb) (endN f l up xb false) = t := ⟨_, rfl⟩
 obtain ⟨ta, hta⟩ : ∃ t, toldB (ofR f l xa) (endN f l up xa false) = t := ⟨_, rfl⟩
 have hsu : sumE f l up x block at_ = if (F || C) = true then (if x.op = 3 then (if tt = true then [(xa, x.dst, IntKind.i64.wrap (0 - endN f l up xb true))] else []) else (if tb = true then [(xa, x.dst, endN f l up xb false)] else []) ++ (if ta = true then [(xb, x.dst, endN f l up xa false)] else [])) else [] := by
  unfold sumE; rw [hF, hC, e0, e1, endE_m (ofR_ok hok hb0) htt, endE_t htb, endE_t hta]
 rw [hsu]
 rw [htt] at het
 rw [htb] at heb
 rw [hta] at hea
 refine ACall.tab ?_
 unfold tabO tblL
 refine zo func156 rfl (by decide) rfl<|zSr<|y7 (cs := _) rfl rfl rfl<|z6<|za<|y1 (fun j => false) (by kernel_rfl) rfl (zn (.rest _))<|zTk 0 rfl (zFF underlying33 rfl sizeOf23 rfl rfl)<|zTk 1 rfl (zLf isAgg23 rfl)<|zTk 2 rfl (zIM 0 underlying23 sizeOf3 rfl rfl rfl (by rw [hxa]; rfl))<|zTk 3 rfl (zLi isAgg3 rfl)<|zTk 4 rfl (zFF underlying33 rfl sizeOf23 rfl rfl)<|zTk 5 rfl (zLf isAgg23 rfl)<|zTk 6 rfl (zIM 1 underlying23 sizeOf3 rfl rfl rfl (by rw [hxa]; rfl))<|zTk 7 rfl (zLi isAgg3 rfl)<|zTk 8 rfl (zAi rfl)<|zTk 9 rfl (zAi rfl)<|zDn<|za<|za<|yc (γ := Bool) [0, 5, 8, 9] (fun u => [(41, .bool u)]) (fun u => [(i, .cells 171 (tblL f l up (.own io es.length))), (io, .grow 3 53 (eC es))]) (fun u => u = !(F || C)) ?_ (fun _ _ h => h) ?_
 ·refine y1 (fun j => false) (by kernel_rfl) rfl (zn (.rest _))<|zTk 0 rfl (zFF underlying33 rfl sizeOf31 rfl rfl)<|zTk 1 rfl (zLi isAgg31 rfl)<|zTk 2 rfl (zMp rfl)<|zTk 3 rfl (zMi rfl)<|zTk 5 rfl (zMp rfl)<|zTk 6 rfl (zMi rfl)<|zOn 4 rfl<|zt rfl (zn (.l (.r (.rest _)))) (hofa _) ?_
  rintro r28 O28 ⟨rfl, rfl⟩
  refine z6<|zOn 7 rfl<|zt rfl (zn (.l (.r (.rest _)))) (hofb _) ?_
  rintro r31 O31 ⟨rfl, rfl⟩
  refine z6<|zOn 8 rfl<|ze (hfit) rfl<|z6<|zTk 9 rfl (yd rfl)<|zTk 10 rfl (zMb rfl)<|AAny.case (s := 34) rfl (fun cF=>?_) (fun cF=>?_)
  ·have hFf : F = false := by simpa using cF
   refine zTt 11 rfl rfl rfl cF (zMp rfl)<|zTt 12 rfl rfl rfl cF (zk isAgg33 sizeOf33 rfl rfl)<|zTt 13 rfl rfl rfl cF (zMi rfl)<|zTt 14 rfl rfl rfl cF (zMi rfl)<|zOn 15 rfl<|z8 rfl rfl cF<|zt rfl (zn (.l (.r (.rest _)))) (hchk _) ?_
   rintro r39 O39 ⟨rfl, rfl⟩
   refine z6<|zTt 16 rfl rfl rfl cF (yd rfl)<|zTk 17 rfl (zPt rfl cF rfl)<|zDn ?_
   exact ⟨_, zR4, zR1, zLe, by rw [hFf]; rfl⟩
  ·have hFt : F = true := by simpa using cF
   refine zTf 11 rfl rfl rfl cF<|zTf 12 rfl rfl rfl cF<|zTf 13 rfl rfl rfl cF<|zTf 14 rfl rfl rfl cF<|zTf 15 rfl rfl rfl cF<|zTf 16 rfl rfl rfl cF<|zTk 17 rfl (zPf rfl cF rfl)<|zDn ?_
   exact ⟨_, zR4, zR1, zLe, by rw [hFt]; rfl⟩
 ·rintro u hu
  subst hu
  refine zr rfl (fun c=>?_) (fun c=>?_)
  ·refine zf<|ym ?_
   exact tabW.of (io := io) (by rw [if_neg (by simpa using c), qt]) ⟨_, .refl _, rfl⟩
  ·rw [if_pos (show (F || C) = true by cases h : (F || C); (rw [h] at c; cases c); rfl)]
   refine zc<|za<|zSr<|z2 (zFF underlying33 rfl sizeOf31 rfl rfl)<|z2 (zLi isAgg31 rfl)<|z2 (y3 rfl rfl)<|z6<|zp rfl (fun c3=>?_) (fun c3=>?_)
   ·rw [if_pos c3]
    refine za<|zSr<|z2 (zMp rfl)<|z2 (zMi rfl)<|zt rfl (zn (.l (.r (.rest _)))) (het _) ?_
    rintro r48 O48 ⟨rfl, rfl⟩
    refine z2 (zMu rfl)<|z2 (zXi rfl rfl)<|z2 (zXb rfl rfl)<|z2 (zAi rfl)<|z2 (zAb rfl)<|z6<|zSr<|z2 (zMb rfl)<|z6<|zr rfl (fun ct=>?_) (fun ct=>?_)
    ·refine zRg<|z2 (zMp rfl)<|z2 (zFF underlying33 rfl sizeOf3 rfl rfl)<|z2 (zLi isAgg3 rfl)<|z2 (zMi rfl)<|z2 (zMi rfl)<|z2 (Gv.neg rfl)<|zt rfl (zn (.l (.l (.rest _)))) (put_spec f l up i io es (by omega) x.dst xa (IntKind.i64.wrap (0 - endN f l up xb true))) ?_
     rintro r58 O58 ⟨jo, rfl, rfl, _⟩
     refine z6<|zf<|ym ?_
     exact tabW.of (by rw [if_pos ct]) ⟨_, .refl _, rfl⟩
    ·refine zc<|zf<|ym ?_
     exact tabW.of (io := io) (by rw [if_neg (by rw [show tt = false from ct]; decide), qt]) ⟨_, .refl _, rfl⟩
   ·rw [if_neg c3]
    refine zc<|za<|zSr<|z2 (zMp rfl)<|z2 (zMi rfl)<|zt rfl (zn (.l (.r (.rest _)))) (heb _) ?_
    rintro r62 O62 ⟨rfl, rfl⟩
    refine z2 (zMu rfl)<|z2 (zXi rfl rfl)<|z2 (zXb rfl rfl)<|z2 (zAi rfl)<|z2 (zAb rfl)<|z6<|zSr<|z2 (zMb rfl)<|z6<|yc (γ := List Ejk × Nat) [0, 5, 8, 9] (fun g => []) (fun g => [(i, .cells 171 (tblL f l up (.own g.2 g.1.length))), (g.2, .grow 3 53 (eC g.1))]) (fun g => g.1 = es ++ (if tb = true then [(xa, x.dst, endN f l up xb false)] else []) ∧ g.1.length ≤ es.length + 1) ?_ (fun _ _ h => h) ?_
    ·refine zr rfl (fun ct=>?_) (fun ct=>?_)
     ·refine zRg<|z2 (zMp rfl)<|z2 (zFF underlying33 rfl sizeOf3 rfl rfl)<|z2 (zLi isAgg3 rfl)<|z2 (zMi rfl)<|z2 (zMi rfl)<|zt rfl (zn (.l (.l (.rest _)))) (put_spec f l up i io es (by omega) x.dst xa (endN f l up xb false)) ?_
      rintro r71 O71 ⟨jo, rfl, rfl, _⟩
      refine z6 ?_
      exact ⟨(es ++ [(xa, x.dst, endN f l up xb false)], jo), zR4, trivial, zLe, by dsimp only; rw [if_pos ct]; exact ⟨rfl, by simp⟩⟩
     ·refine zc ?_
      exact ⟨(es, io), zR4, trivial, zLe, by dsimp only; rw [if_neg (by rw [show tb = false from ct]; decide)]; exact ⟨by simp, by omega⟩⟩
    ·rintro ⟨es2, io⟩ ⟨hes2, hle2⟩
     rw [← ql, ← hes2]
     clear hes2
     refine zSr<|z2 (zMp rfl)<|z2 (zMi rfl)<|zt rfl (zn (.l (.r (.rest _)))) (hea _) ?_
     rintro r75 O75 ⟨rfl, rfl⟩
     refine z2 (zMu rfl)<|z2 (zXi rfl rfl)<|z2 (zXb rfl rfl)<|z2 (zAi rfl)<|z2 (zAb rfl)<|z6<|zSr<|z2 (zMb rfl)<|z6<|zr rfl (fun ct=>?_) (fun ct=>?_)
     ·refine zRg<|z2 (zMp rfl)<|z2 (zFF underlying33 rfl sizeOf3 rfl rfl)<|z2 (zLi isAgg3 rfl)<|z2 (zMi rfl)<|z2 (zMi rfl)<|zt rfl (zn (.l (.l (.rest _)))) (put_spec f l up i io es2 (by dsimp only at hle2; omega) x.dst xb (endN f l up xa false)) ?_
      rintro r84 O84 ⟨jo, rfl, rfl, _⟩
      refine z6<|ym ?_
      exact tabW.of (by rw [if_pos ct]) ⟨_, .refl _, rfl⟩
     ·refine zc<|ym ?_
      exact tabW.of (io := io) (by rw [if_neg (by rw [show ta = false from ct]; decide), qt]) ⟨_, .refl _, rfl⟩
set_option linter.defProp false
def yt := @tabW.of
end Go.Proofs.YtjnpcfpecilejaaGreatDoor
