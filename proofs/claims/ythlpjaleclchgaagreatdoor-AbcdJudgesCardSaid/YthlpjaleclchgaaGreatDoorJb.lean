/- A block of numbers that is looked at by its place: slices of it, copies within it. No conditions but bounds. -/
import Derived.Test.YthlpjaleclchgaaGreatDoorJa
import Derived.Test.YthlpjaleclchgaaGreatDoorChecked
import Derived.Laws.BytesArg
import Derived.ProofKit
import Derived.OpenShut
import Derived.Deep.Matrix
import Derived.Lib.LaidU8
import Derived.Lib.LaidTab
import Derived.MapKept
import Derived.WideMake
import Derived.Laws.Cover4
import Derived.WideLaws
import Derived.Lib.AppendZeros
import Derived.Lib.Builder
import Derived.Lib.AppendStr
import Derived.Lib.UnsafeStr
import Derived.Laws.Externs
import Derived.Sort.Grow
import Derived.Laws.CopyRow
set_option linter.unusedVariables false
set_option linter.unusedSimpArgs false
set_option linter.unusedSectionVars false
namespace Go.Proofs.YthlpjaleclchgaaGreatDoor
open Go.Proofs.Tryz
def lit : Value → AV
 | .bool b => .bool b
 | .int k n => .int k n
 | .string s => .str s
 | v => .raw v
theorem lit_rep (I : G) (v : Value) : RepV I (lit v) v := by cases v <;> exact rfl
theorem lit_reps (I : G) : ∀ l : List Value, RepL I (l.map lit) l
 | [] => rfl
 | v :: l => ⟨v, l, rfl, lit_rep I v, lit_reps I l⟩
def AV.cs : AV → List AV
 | .agg cs => cs
 | x => [x]
def AV.sto : AV → Bool
 | .any | .tup _ => false
 | .raw v => v.oneCell'
 | _ => true
theorem AV.cs_rep {I : G} {x : AV} {v : Value} (h : RepV I x v) (hs : x.sto = true) : RepL I x.cs v.cells.toList := by
 cases x
 case agg cs => obtain ⟨vs, e, h2⟩ := h; subst e; simpa [AV.cs, Value.cells] using h2
 case any => cases hs
 case tup => cases hs
 all_goals
  have hc : v.cells = #[v] := by
   have := AV.cell_rep h (by first | rfl | exact hs)
   cases v <;> first | rfl | (simp [Value.oneCell'] at this)
  rw [hc]
  exact RepL.one h
theorem SLA.name {I : G} {O : OL} {F : List (Nat × Obj)} {E w : World} (h : SLA I O F E w) : ∃ i, ∀ hd : Option Nat × Nat, ∃ J : G, J.k = I.k ∧ I.le J ∧ J.h i = some hd ∧ ∃ top, ∀ i, top ≤ i → J.h i = none := by
 obtain ⟨⟨top, ht⟩, _⟩ := h
 refine ⟨top, fun hd => ⟨⟨I.k, fun j => if j = top then some hd else I.h j⟩, rfl, ⟨.refl _, fun i x hi => ?_⟩, by simp, top + 1, fun i hi => ?_⟩⟩
 ·have : i ≠ top := fun e => by rw [e, ht top (Nat.le_refl _)] at hi; cases hi
  simp [this, hi]
 ·simp only
  rw [if_neg (by omega)]; exact ht i (by omega)
theorem RepOs.perm {I : G} {O O' : OL} (h : O.Perm O') : ∀ {L}, RepOs I O L → ∃ L', RepOs I O' L' ∧ L.Perm L' := by
 induction h with
 | nil => intro L h; exact ⟨L, h, .refl _⟩
 | cons x _ ih => rintro L ⟨A, B, e, h1, h2⟩; obtain ⟨B', h3, h4⟩ := ih h2; exact ⟨A ++ B', ⟨A, B', rfl, h1, h3⟩, e ▸ h4.append_left A⟩
 | swap x y l =>
  rintro L ⟨A, B, e, h1, C, D, e2, h2, h3⟩
  refine ⟨C ++ (A ++ D), ⟨C, A ++ D, rfl, h2, A, D, rfl, h1, h3⟩, ?_⟩
  subst e e2
  rw [← List.append_assoc, ← List.append_assoc]
  exact List.perm_append_comm.append_right D
 | trans _ _ ih1 ih2 => intro L h; obtain ⟨L1, h1, h2⟩ := ih1 h; obtain ⟨L2, h3, h4⟩ := ih2 h1; exact ⟨L2, h3, h2.trans h4⟩
def ACall (P : Program) (E : World) (f : FuncId) (args : List AV) (O : OL) (R : AV → OL → Prop) : Prop :=
 ∀ I F w vs, RepL I args vs → SLA I O F E w → Fn P f vs.toArray w fun v w' => ∃ J x O', I.le J ∧ RepV J x v ∧ SLA J O' F E w' ∧ R x O'
def AFun (P : Program) (E : World) (f : FuncId) (args : List AV) (r : AV) : Prop := ACall P E f args [] fun x _ => x = r
def ares (E : World) (rs : Array ResultVar) (env : AEnv) (O : OL) (P : Program) (x : AV) : Prop :=
 ∀ I F ρ w, RepE I env ρ → SLA I O F E w → ∃ v, resE rs ρ P w = .ok v w ∧ RepV I x v
def afin (P : Program) (E : World) (rs : Array ResultVar) (R : AV → OL → Prop) : Exit → AEnv → OL → Prop := fun e env O =>
 match e with
 | .normal | .ret => ∀ I F ρ w, RepE I env ρ → SLA I O F E w → ∃ v, resE rs ρ P w = .ok v w ∧ ∃ J x O', I.le J ∧ RepV J x v ∧ SLA J O' F E w ∧ R x O'
 | _ => False
def aenv0 (args : List AV) : AEnv := fun t => (args[t]?).getD (.raw undef)
theorem aenv0_rep {I : G} {args : List AV} {vs : List Value} (h : RepL I args vs) : RepE I (aenv0 args) (env0 vs.toArray) := fun t => by
 unfold aenv0 env0
 cases ha : args[t]? with
 | none =>
  have : vs[t]? = none := by
   rw [List.getElem?_eq_none_iff] at ha ⊢
   rw [h.length]; exact ha
  simp [Array.getD_eq_getD_getElem?, this, RepV]
 | some x =>
  obtain ⟨v, hv, hr⟩ := h.get ha
  simp [Array.getD_eq_getD_getElem?, hv, hr]
theorem ACall.intro {E : World} {P : Program} {f : FuncId} {fn : Func} {c : Code} {args : List AV} {O : OL} {R : AV → OL → Prop} (hf : P.funcs[f]? = some fn) (hb : fn.body = some c)
  (hn : fn.name ≠ "runtime.NumGoroutine") (hs : Nat.ble args.length fn.ntmps = true) (h : AWP P E fn.ntmps c (afin P E fn.results R) (aenv0 args) O) : ACall P E f args O R := fun I F w vs h1 h2 =>
 Fn.intro hf hb hn (by rw [List.size_toArray, h1.length]; exact hs) ((h I F _ w (aenv0_rep h1) h2).mono fun e ρ w ⟨J, env, O, a, b, c, d⟩ => by
  cases e <;> first | exact d.elim | (obtain ⟨v, h3, K, x, O', h4, h5, h6, h7⟩ := d J F ρ w b c; exact ⟨v, h3, K, x, O', a.trans h4, h5, h6, h7⟩))
section
variable {E : World} {P : Program} {env : AEnv} {O : OL} {R : AV → OL → Prop}
theorem afin.of {rs : Array ResultVar} {x : AV} (h : ares E rs env O P x) (hr : R x O) : afin P E rs R .ret env O := fun I F ρ w h1 h2 => by
 obtain ⟨v, h3, h4⟩ := h I F ρ w h1 h2
 exact ⟨v, h3, I, x, O, .refl _, h4, h2, hr⟩
theorem afin.t1 {t : Nat} {x : AV} (hv : env t = x) (h : R x O) : afin P E #[.tmp t] R .ret env O := afin.of (fun I F ρ w h1 _ => ⟨_, by simp [resE], hv ▸ h1 t⟩) h
theorem afin.t0 (h : R (.tup []) O) : afin P E #[] R .ret env O := afin.of (x := .tup []) (fun I F ρ w h1 _ => ⟨.tuple #[], by simp [resE], ⟨[], rfl, rfl⟩⟩) h
theorem afin.t2 {t u : Nat} {x y : AV} (hv : env t = x) (hu : env u = y) (h : R (.tup [x, y]) O) : afin P E #[.tmp t, .tmp u] R .ret env O :=
 afin.of (x := .tup [x, y]) (fun I F ρ w h1 _ => ⟨.tuple #[ρ t, ρ u], by simp [resE], ⟨[ρ t, ρ u], rfl, ⟨_, _, rfl, hv ▸ h1 t, ⟨_, _, rfl, hu ▸ h1 u, rfl⟩⟩⟩⟩) h
theorem afin.c1 {t T i : Nat} {T' : TypeId} {cs : List AV} {n : Nat} (hv : env t = .po i 0) (hO : Has O i (.cells T' cs)) (ha : ∀ w, (isAgg T).run P w = .ok true w) (hs : ∀ w, (sizeOf T).run P w = .ok n w) (hn : cs.length = n) (h : R (.agg cs) O) :
  afin P E #[.cell t T] R .ret env O := afin.of (fun I F ρ w h1 h2 => by
 obtain ⟨L, hL, hS⟩ := h2.2
 have h3 := h1 t
 rw [hv] at h3
 obtain ⟨b, c, e1, e⟩ := h3
 obtain ⟨b', c', vs, e2, h4, hm⟩ := hO.cells hL
 rw [e1] at e2; cases e2
 have hl := run_loadVar_agg (P := P) (w := w) (b := b) (off := 0) ha (cs := vs) (by rw [h4.length, hn]; exact hs) (fun j v hj => by
  rw [Nat.zero_add]
  exact hS.at_ (.inr ⟨_, _, _, List.mem_append_left _ hm, by rw [List.getElem?_toArray]; exact hj⟩))
 exact ⟨.agg vs.toArray, by simp [resE, e, asAddr, hl], ⟨vs, rfl, h4⟩⟩) h
end
section
variable {E : World} {P : Program} {ops : Array Oper} {K : AEnv → OL → Prop} {env : AEnv} {O O' : OL} {rest : List Oper}
variable {d ty : Nat} {pos : String} {af : Array Edge} {x y z : Operand} {t u e : TypeId}
theorem AOps.boxF {v : AV} {cs : List AV} (hx : aev env x = v) (hv : v.sto = true) (hc : v.cs = cs) (k : AOps P E ops K rest (aupd env d (.pf cs)) O) : AOps P E ops K (Oper.mk (some d) (.box t x) ty pos af none :: rest) env O := fun I F ρ w h1 h2 => by
 obtain ⟨ht, L, hL, hS⟩ := h2
 refine Ops.boxP hS rfl fun b w' J hl hb hS' => ?_
 have h3 := h1.ev x
 rw [hx] at h3
 have h4 := AV.cs_rep h3 hv
 rw [hc] at h4
 let I' : G := ⟨J, I.h⟩
 have hle : I.le I' := ⟨hl, fun _ _ h => h⟩
 refine yj (fun _ _ => postK.up hle) _ _ _ (k I' F _ w' ((h1.mono hle).upd d ⟨b, 0, _, rfl, RepL.mono hle _ _ h4, fun j u hj => ⟨_, _, _, hb, ?_⟩⟩) ⟨ht, L, hL.mono hle, hS'⟩)
 rw [Nat.zero_add]; simpa using hj
theorem allocd {I : G} {F : List (Nat × Obj)} {E w w' : World} {L : List (Nat × Obj)} {b : Nat} {T : TypeId} {cs : List AV} {vs : List Value} (h2 : SLA I O F E w) (hL : RepOs I O L) (hr : RepL I cs vs) (h1c : ∀ u ∈ vs, u.oneCell' = true)
  (hS : SL I.k ((b, .cells vs.toArray T (0, 0)) :: (L ++ F)) E w') : ∃ i J, I.le J ∧ J.h i = some (some b, 0) ∧ SLA J ((i, .cells T cs) :: O) F E w' := by
 obtain ⟨i, hi⟩ := h2.name
 obtain ⟨J, e1, hle, e2, htop⟩ := hi (some b, 0)
 exact ⟨i, J, hle, e2, htop, _, ⟨_, L, rfl, ⟨b, 0, vs, e2, RepL.mono hle _ _ hr, h1c, rfl⟩, hL.mono hle⟩, by rw [e1]; exact hS⟩
theorem RepL.cell1 {I : G} {cs : List AV} {vs : List Value} (h4 : RepL I cs vs) (hc1 : cs.all AV.cell = true) : ∀ u ∈ vs, u.oneCell' = true := by
 intro u hu
 obtain ⟨j, hj⟩ := List.mem_iff_getElem?.1 hu
 have hlen := h4.length
 have hjl := (List.getElem?_eq_some_iff.1 hj).1
 have hx : cs[j]? = some cs[j] := List.getElem?_eq_getElem (by omega)
 obtain ⟨v', hv', hr'⟩ := h4.get hx
 rw [hj] at hv'; cases hv'
 exact AV.cell_rep hr' (List.all_eq_true.1 hc1 _ (List.getElem_mem _))
theorem AOps.alloc {zv : Value} {cs : List AV} (hz : ∀ w, (zeroValue t).run P w = .ok zv w) (hc : zv.cells.toList.map lit = cs) (h1c : zv.cells.toList.all Value.oneCell' = true) (k : ∀ i, AOps P E ops K rest (aupd env d (.po i 0)) ((i, .cells t cs) :: O)) :
  AOps P E ops K (Oper.mk (some d) (.alloc t) ty pos af none :: rest) env O := fun I F ρ w h1 h2 => by
 obtain ⟨L, hL, hS⟩ := h2.2
 refine Ops.alloc hz hS fun b w' hS' => ?_
 obtain ⟨i, J, hle, e2, h5⟩ := allocd (O := O) (w' := w') (b := b) (T := t) h2 hL (hc ▸ lit_reps I zv.cells.toList) (List.all_eq_true.1 h1c) (by simpa using hS')
 exact yj (fun _ _ => postK.up hle) _ _ _ (k i J F _ w' ((h1.mono hle).upd d ⟨b, 0, e2, rfl⟩) h5)
theorem run_storeAt {b off n : Nat} {vs : List Value} {T : TypeId} {v : Value} {old : List Value} {w : World} (hs : ∀ w, (sizeOf t).run P w = .ok n w) (hvc : v.cells = vs.toArray) (hn : vs.length = n) (h1c : ∀ u ∈ vs, u.oneCell' = true) (hb : off + n ≤ old.length)
  (hown : w.heap[b]? = some (.cells old.toArray T (0, 0))) : (Instr.storeAt t (.pointer (some ⟨b, off, none⟩)) v).run P w = .ok () (w.setRow b (old.take off ++ vs ++ old.drop (off + n)).toArray) := by
 have hst : (storeCells (⟨b, off, none⟩ : Addr) vs 0).run P w = .ok () (w.setRow b (old.take off ++ vs ++ old.drop (off + n)).toArray) := by
  rw [run_storeCells_at (P := P) b off T vs 0 old.toArray w hown (by simp; omega) h1c]
  simp [hn]
 have hvs : v.cells.size = n := by rw [hvc]; simpa using hn
 simp [Instr.storeAt, Instr.sureAddr, storeVar, hs, hvc, hn, hst]
theorem SL.turn1 {I : Ghost} {L : List (Nat × Obj)} {E w : World} {b : Nat} {old new : List Value} {T : TypeId} (h : SL I ((b, .cells old.toArray T (0, 0)) :: L) E w) : SL I ((b, .cells new.toArray T (0, 0)) :: L) E (w.setRow b new.toArray) := by
 have hown := h.own _ (.head _)
 simp only at hown
 refine h.turn rfl rfl rfl ?_ ?_
 ·simp [World.setRow, Array.getElem?_modify, hown]
 ·intro k hk
  simp only [World.setRow, Array.getElem?_modify]
  rw [if_neg (by omega)]
theorem AOps.storeC {i off n : Nat} {T : TypeId} {v : AV} {cs l new : List AV} (hs : ∀ w, (sizeOf t).run P w = .ok n w) (hx : aev env x = .po i off) (hy : aev env y = v) (hv : v.sto = true) (hl : v.cs = l) (hl1 : l.all AV.cell = true) (hn : l.length = n)
  (hO : Put O i (.cells T cs) (.cells T new) O') (hb : Nat.ble (off + n) cs.length = true) (hnew : cs.take off ++ l ++ cs.drop (off + n) = new) (k : AOps P E ops K rest env O') : AOps P E ops K (Oper.mk none (.store t x y) ty pos af none :: rest) env O := fun I F ρ w h1 h2 => by
 obtain ⟨htop, L, hL, hS⟩ := h2
 have h3 := h1.ev x
 rw [hx] at h3
 obtain ⟨b, c, e1, e⟩ := h3
 have h4 := h1.ev y
 rw [hy] at h4
 have h5 := AV.cs_rep h4 hv
 rw [hl] at h5
 obtain ⟨A, B, hp, ⟨b', c', vs, e2, h6, h6c, rfl⟩, hback⟩ := hO.rep hL
 rw [e1] at e2; cases e2
 have hS2 : SL I.k ((b, .cells vs.toArray T (0, 0)) :: (B ++ F)) E w := hS.perm ((hp.append_right F).symm)
 have hb := Nat.le_of_ble_eq_true hb
 have hrun := run_storeAt (P := P) (t := t) (b := b) (off := off) (v := ev ρ y) (vs := (ev ρ y).cells.toList) (old := vs) (w := w) hs (by simp) (by rw [h5.length, hn]) (h5.cell1 hl1) (by rw [h6.length]; exact hb) (hS2.own _ (.head _))
 refine Ops.step rfl ?_
 unfold OpW
 have : (execOp (ev ρ) (Oper.mk none (.store t x y) ty pos af none)).run P w = .ok .skip (w.setRow b (vs.take off ++ (ev ρ y).cells.toList ++ vs.drop (off + n)).toArray) := by
  simp only [execOp, e]
  rw [Sem.run_bind, hrun]; rfl
 rw [this]
 have hnr : RepL I new (vs.take off ++ (ev ρ y).cells.toList ++ vs.drop (off + n)) := hnew ▸ ((h6.take off).append h5).append (h6.drop (off + n))
 obtain ⟨L', h7, h8⟩ := hback (G.le.refl I) (A' := [(b, .cells (vs.take off ++ (ev ρ y).cells.toList ++ vs.drop (off + n)).toArray T (0, 0))]) ⟨b, c, _, e1, hnr, by
  intro u hu
  simp only [List.mem_append] at hu
  rcases hu with (hu | hu) | hu
  ·exact h6c u (List.mem_of_mem_take hu)
  ·exact h5.cell1 hl1 u hu
  ·exact h6c u (List.mem_of_mem_drop hu), rfl⟩
 exact k I F ρ _ h1 ⟨htop, L', h7, (hS2.turn1).perm (h8.append_right F)⟩
end
end Go.Proofs.YthlpjaleclchgaaGreatDoor
namespace Go.Proofs.YthlpjaleclchgaaGreatDoor
open Go.Proofs.Tryz
def fillL (place : Nat → Option (Nat × Nat)) : List AV → List (Nat × List AV) → Option (List AV)
 | cells, [] => some cells
 | cells, (i, xs) :: rest =>
  match place i with
  | none => none
  | some (off, size) => bif Nat.beq xs.length size && Nat.ble (off + size) cells.length then fillL place (cells.take off ++ (xs ++ cells.drop (off + size))) rest else none
theorem foldl_set (off : Nat) : ∀ (l : List Value) (k : Nat) (cs : Array Value), off + k + l.length ≤ cs.size → ((l.zipIdx k).foldl (fun cs (x : Value × Nat) => cs.setIfInBounds (off + x.2) x.1) cs).toList = cs.toList.take (off + k) ++ l ++ cs.toList.drop (off + k + l.length) := by
 intro l
 induction l with
 | nil => intro k cs _; simp
 | cons c l ih =>
  intro k cs hk
  simp only [List.zipIdx_cons, List.foldl_cons]
  rw [ih (k + 1) _ (by simp at hk ⊢; omega)]
  simp only [Array.toList_setIfInBounds, List.length_cons]
  have hk' : off + k < cs.toList.length := by simp at hk ⊢; omega
  rw [← Nat.add_assoc off k 1, List.take_succ_eq_append_getElem (by simpa using hk'), List.getElem_set_self, List.take_set_of_le (Nat.le_refl _)]
  rw [List.drop_set_of_lt (by omega : off + k < off + k + 1 + l.length)]
  simp only [List.append_assoc, List.singleton_append]
  have : off + k + 1 + l.length = off + k + (l.length + 1) := by omega
  rw [this]
theorem fill_rep {I : G} {place : Nat → Option (Nat × Nat)} : ∀ (l : List (Nat × Value)) (cps : List (Nat × List AV)) (cells : List AV) (vcells : Array Value) (rs : List AV),
  cps.map (·.1) = l.map (·.1) → (∀ (j : Nat) p q, l[j]? = some p → cps[j]? = some q → RepL I q.2 p.2.cells.toList) → RepL I cells vcells.toList → fillL place cells cps = some rs →
  ∃ vc, Instr.fill place vcells l = some vc ∧ RepL I rs vc.toList
 | [], [], cells, vcells, rs, _, _, h, hf => ⟨vcells, rfl, by cases hf; exact h⟩
 | [], _ :: _, _, _, _, h, _, _, _ => by cases h
 | _ :: _, [], _, _, _, h, _, _, _ => by cases h
 | (i, v) :: l, (i', xs) :: cps, cells, vcells, rs, hk, hp, h, hf => by
  simp only [List.map_cons, List.cons.injEq] at hk
  obtain ⟨rfl, hk⟩ := hk
  unfold fillL at hf
  unfold Instr.fill
  cases hpl : place i' with
  | none => rw [hpl] at hf; cases hf
  | some os =>
   obtain ⟨off, size⟩ := os
   rw [hpl] at hf
   simp only at hf ⊢
   have hx := hp 0 _ _ rfl rfl
   simp only at hx
   have hxl := hx.length
   have hcl := h.length
   simp only [Array.length_toList] at hxl hcl
   cases hb : (Nat.beq xs.length size && Nat.ble (off + size) cells.length) with
   | false => rw [hb] at hf; cases hf
   | true =>
    rw [hb] at hf
    simp only [cond_true] at hf
    simp only [Bool.and_eq_true] at hb
    have e1 := Nat.eq_of_beq_eq_true hb.1
    have e2 := Nat.le_of_ble_eq_true hb.2
    rw [if_neg (show ¬ ((v.cells.size ≠ size || off + v.cells.size > vcells.size) = true) by simp; omega)]
    have hfold := foldl_set off v.cells.toList 0 vcells (by simp; omega)
    simp only [Nat.add_zero] at hfold
    have hfa : (v.cells.zipIdx.foldl (fun cs (x : Value × Nat) => cs.setIfInBounds (off + x.2) x.1) vcells).toList = vcells.toList.take off ++ v.cells.toList ++ vcells.toList.drop (off + size) := by
     rw [← Array.foldl_toList]
     have : v.cells.zipIdx.toList = v.cells.toList.zipIdx 0 := by simp
     have hlen : v.cells.toList.length = size := by rw [Array.length_toList]; omega
     rw [this, hfold, hlen]
    refine fill_rep l cps _ _ rs hk (fun j p q h1 h2 => hp (j + 1) p q (by simpa using h1) (by simpa using h2)) ?_ hf
    rw [hfa, List.append_assoc]
    exact (h.take off).append (hx.append (h.drop _))
def Places (P : Program) (t : TypeId) (places : Array (Nat × Nat)) (zs : List AV) : Prop :=
 ∃ fs zv, P.underlying t = some (.struct fs) ∧ (∀ w, (zeroValue t).run P w = .ok zv w) ∧ (∀ w, (fs.mapM (m := Sem) fun f => do pure (f.offset, ← sizeOf f.type)).run P w = .ok places w) ∧ zv.cells.toList.map lit = zs
def PlacesA (P : Program) (t : TypeId) (k : Nat) (zs : List AV) : Prop :=
 ∃ n e zv, P.underlying t = some (.array n e) ∧ (∀ w, (zeroValue t).run P w = .ok zv w) ∧ (∀ w, (sizeOf e).run P w = .ok k w) ∧ zv.cells.toList.map lit = zs
section
variable {E : World} {P : Program} {ops : Array Oper} {K : AEnv → OL → Prop} {env : AEnv} {O O' : OL} {rest : List Oper}
variable {d ty : Nat} {pos : String} {af : Array Edge} {x y z : Operand} {t u e : TypeId}
theorem parts_rep {I : G} {ρ : Env} (h1 : RepE I env ρ) (l : List (Nat × Operand)) (hs : l.all (fun p => (aev env p.2).sto) = true) (j : Nat) (p : Nat × Value) (q : Nat × List AV)
  (hp : (l.map fun p => (p.1, ev ρ p.2))[j]? = some p) (hq : (l.map fun p => (p.1, (aev env p.2).cs))[j]? = some q) : RepL I q.2 p.2.cells.toList := by
 rw [List.getElem?_map] at hp hq
 cases hl : l[j]? with
 | none => rw [hl] at hp; cases hp
 | some o =>
  rw [hl] at hp hq
  cases hp; cases hq
  exact AV.cs_rep (h1.ev o.2) (List.all_eq_true.1 hs _ (List.mem_of_getElem? hl))
theorem Gv.build {places : Array (Nat × Nat)} {zs rs : List AV} {l : List (Nat × Operand)} {cps : List (Nat × List AV)} (hpl : Places P t places zs) (hs : l.all (fun p => (aev env p.2).sto) = true) (hv : l.map (fun p => (p.1, (aev env p.2).cs)) = cps)
  (hf : fillL (places[·]?) zs cps = some rs) : Gv P env O (Oper.mk (some d) (.build t l.toArray) ty pos af none) (.agg rs) := Gv.ofEv fun I ρ h => by
 obtain ⟨fs, zv, ht, hz, hp, hc⟩ := hpl
 obtain ⟨vc, h1, h2⟩ := fill_rep (I := I) (place := (places[·]?)) (l.map fun p => (p.1, ev ρ p.2)) cps zs zv.cells rs (by subst hv; simp) (fun j p q hj hq => parts_rep h l hs j p q hj (hv ▸ hq)) (hc ▸ lit_reps I _) hf
 refine ⟨.agg vc, ⟨vc.toList, by simp, h2⟩, fun w=>?_⟩
 have hrun : (Instr.build t (l.map fun p => (p.1, ev ρ p.2)).toArray).run P w = .ok (.agg vc) w := by
  unfold Instr.build
  simp only [Sem.run_bind, hz, Result.andThen_ok, run_underlying ht]
  rw [hp]
  simp only [Result.andThen_ok, h1]
  rfl
 simp only [execOp, List.map_toArray]
 rw [Sem.run_bind, hrun]; rfl
theorem Gv.buildA {k : Nat} {zs rs : List AV} {l : List (Nat × Operand)} {cps : List (Nat × List AV)} (hpl : PlacesA P t k zs) (hs : l.all (fun p => (aev env p.2).sto) = true) (hv : l.map (fun p => (p.1, (aev env p.2).cs)) = cps)
  (hf : fillL (fun i => some (i * k, k)) zs cps = some rs) : Gv P env O (Oper.mk (some d) (.build t l.toArray) ty pos af none) (.agg rs) := Gv.ofEv fun I ρ h => by
 obtain ⟨n, e, zv, ht, hz, hp, hc⟩ := hpl
 obtain ⟨vc, h1, h2⟩ := fill_rep (I := I) (place := fun i => some (i * k, k)) (l.map fun p => (p.1, ev ρ p.2)) cps zs zv.cells rs (by subst hv; simp) (fun j p q hj hq => parts_rep h l hs j p q hj (hv ▸ hq)) (hc ▸ lit_reps I _) hf
 refine ⟨.agg vc, ⟨vc.toList, by simp, h2⟩, fun w=>?_⟩
 have hrun : (Instr.build t (l.map fun p => (p.1, ev ρ p.2)).toArray).run P w = .ok (.agg vc) w := by
  unfold Instr.build
  simp only [Sem.run_bind, hz, Result.andThen_ok, run_underlying ht, hp, h1]
  rfl
 simp only [execOp, List.map_toArray]
 rw [Sem.run_bind, hrun]; rfl
def PlacesS (P : Program) (t e : TypeId) (n k : Nat) (zs : List AV) : Prop :=
 ∃ zv, P.underlying t = some (.slice e) ∧ (∀ w, (sizeOf e).run P w = .ok k w) ∧ (∀ w, (zeroValue e).run P w = .ok zv w) ∧ 0 < n * k ∧ n * k ≤ 2 ^ 24 ∧ ((Array.range (n * k)).map (zv.cells[· % zv.cells.size]!)).toList.map lit = zs
theorem run_buildSliceL {n k : Nat} {zs rs : List AV} {l : List (Nat × Operand)} {cps : List (Nat × List AV)} (hpl : PlacesS P t e n k zs) (hs : l.all (fun p => (aev env p.2).sto) = true) (hv : l.map (fun p => (p.1, (aev env p.2).cs)) = cps)
  (hf : fillL (fun i => some (i * k, k)) zs cps = some rs) {I : G} {ρ : Env} (h : RepE I env ρ) : ∃ vc : List Value, RepL I rs vc ∧ ∀ w, (execOp (ev ρ) (Oper.mk (some d) (.buildSlice t n l.toArray) ty pos af none)).run P w = .ok (.value (.slice (some ⟨w.heap.size, 0, none⟩) n n)) (w.alloc (.cells vc.toArray e)) := by
 obtain ⟨zv, ht, hsz, hz, h0, h24, hc⟩ := hpl
 obtain ⟨vc, h1, h2⟩ := fill_rep (I := I) (place := fun i => some (i * k, k)) (l.map fun p => (p.1, ev ρ p.2)) cps zs ((Array.range (n * k)).map (zv.cells[· % zv.cells.size]!)) rs (by subst hv; simp) (fun j p q hj hq => parts_rep h l hs j p q hj (hv ▸ hq)) (hc ▸ lit_reps I _) hf
 refine ⟨vc.toList, h2, fun w=>?_⟩
 have hrun : (Instr.buildSlice t n (l.map fun p => (p.1, ev ρ p.2)).toArray).run P w = .ok (.slice (some ⟨w.heap.size, 0, none⟩) n n) (w.alloc (.cells vc e)) := by
  unfold Instr.buildSlice
  simp only [Sem.run_bind, Result.andThen_ok, run_underlying ht, hsz]
  rw [if_neg (by omega)]
  simp only [Sem.run_pure, Result.andThen_ok, if_neg (by omega : ¬ n * k = 0), Sem.run_bind, hz, h1, newRow]
  simp
 simp only [execOp, List.map_toArray]
 rw [Sem.run_bind, hrun]; simp
theorem RepR.of_flat {I : G} {k b : Nat} {c : Array Value} {T : TypeId} {f : Nat × Nat} (hb : I.k b = some (.cells c T f)) : ∀ (rows : List (List AV)) (vs : List Value) (j : Nat), (∀ r ∈ rows, r.length = k) → RepL I rows.flatten vs → (∀ (i : Nat) u, vs[i]? = some u → c[j * k + i]? = some u) → RepR I k (some ⟨b, 0, none⟩) j rows
 | [], _, _, _, _, _ => trivial
 | r :: rows, vs, j, hk, h, hc => by
  have hr := hk r (by simp)
  have h1 := h.take r.length
  have h2 := h.drop r.length
  simp only [List.flatten_cons, List.take_left, List.drop_left] at h1 h2
  refine ⟨⟨b, 0, vs.take r.length, rfl, ?_, h1, fun i u hu => ⟨c, T, f, hb, ?_⟩⟩, RepR.of_flat hb rows _ (j + 1) (fun r hr => hk r (by simp [hr])) h2 fun i u hu => ?_⟩
  ·rw [h1.length, hr]
  ·rw [List.getElem?_take] at hu
   split at hu
   ·rw [Nat.zero_add]; exact hc i u hu
   ·cases hu
  ·rw [List.getElem?_drop, hr] at hu
   have := hc _ u hu
   rw [Nat.add_mul, Nat.one_mul, Nat.add_assoc]; exact this
theorem AOps.buildSliceF {n k : Nat} {zs rs : List AV} {rows : List (List AV)} {l : List (Nat × Operand)} {cps : List (Nat × List AV)} (hpl : PlacesS P t e n k zs) (hs : l.all (fun p => (aev env p.2).sto) = true) (hv : l.map (fun p => (p.1, (aev env p.2).cs)) = cps)
  (hf : fillL (fun i => some (i * k, k)) zs cps = some rs) (hr : rows.flatten = rs) (hk : rows.all (fun r => Nat.beq r.length k) = true) (hn : rows.length = n) (kk : AOps P E ops K rest (aupd env d (.fro k rows)) O) :
  AOps P E ops K (Oper.mk (some d) (.buildSlice t n l.toArray) ty pos af none :: rest) env O := fun I F ρ w h1 h2 => by
 obtain ⟨htop, L, hL, hS⟩ := h2
 obtain ⟨vc, hrep, hrun⟩ := run_buildSliceL (d := d) (ty := ty) (pos := pos) (af := af) hpl hs hv hf h1
 refine Ops.step rfl ?_
 unfold OpW
 rw [hrun w]
 obtain ⟨hl, hS'⟩ := hS.alloc_pers (.cells vc.toArray e)
 let J : G := ⟨I.k.put w.heap.size (.cells vc.toArray e), I.h⟩
 have hle : I.le J := ⟨hl, fun _ _ h => h⟩
 have hb : J.k w.heap.size = some (.cells vc.toArray e) := Ghost.put_same _ _ _
 refine yj (fun _ _ => postK.up hle) _ _ _ (kk J F _ _ ((h1.mono hle).upd d ⟨_, n, n, rfl, hn.symm, Nat.le_refl _, fun h => by (cases h), ?_⟩) ⟨htop, L, hL.mono hle, hS'⟩)
 exact RepR.of_flat hb rows vc 0 (fun r h => Nat.eq_of_beq_eq_true (List.all_eq_true.1 hk r h)) (hr ▸ RepL.mono hle _ _ hrep) (fun i u hu => by simpa using hu)
end
end Go.Proofs.YthlpjaleclchgaaGreatDoor
namespace Go.Proofs.YthlpjaleclchgaaGreatDoor
open Go.Proofs.Tryz
theorem RepR.flat {I : G} {k : Nat} {a : Option Addr} : ∀ {rows : List (List AV)} {j : Nat}, RepR I k a j rows → rows ≠ [] → ∃ b off vs, a = some ⟨b, off, none⟩ ∧ RepL I rows.flatten vs ∧ vs.length = rows.length * k ∧ ∀ (i : Nat) u, vs[i]? = some u → KAt I.k b (off + j * k + i) u
 | [], _, _, h => absurd rfl h
 | [r], j, ⟨⟨b, off, vs, e, h1, h2, h3⟩, _⟩, _ => ⟨b, off, vs, e, by simpa using h2, by simpa using h1, h3⟩
 | r :: r' :: rows, j, ⟨⟨b, off, vs, e, h1, h2, h3⟩, h4⟩, _ => by
  obtain ⟨b', off', us, e', h5, h6, h7⟩ := RepR.flat h4 (by simp)
  subst e
  cases e'
  refine ⟨b, off, vs ++ us, rfl, by simpa using h2.append h5, by simp only [List.length_append, h1, h6, List.length_cons, Nat.add_mul]; omega, fun i u hu => ?_⟩
  by_cases hi : i < vs.length
  ·rw [List.getElem?_append_left hi] at hu; exact h3 i u hu
  ·rw [List.getElem?_append_right (by omega)] at hu
   have := h7 _ u hu
   have e : off + (j + 1) * k + (i - vs.length) = off + j * k + i := by rw [Nat.add_mul, h1]; omega
   rwa [e] at this
theorem fro_src {I : G} {k : Nat} {rows : List (List AV)} {v : Value} (h : RepV I (.fro k rows) v) (hc : rows.flatten.all AV.cell = true) : ∃ a n c vs, v = .slice a n c ∧ n = rows.length ∧ RepL I rows.flatten vs ∧ (∀ u ∈ vs, u.oneCell' = true) ∧ ∀ O, Src I.k O k a n vs := by
 obtain ⟨a, n, c, e, hn, hnc, hnil, hr⟩ := h
 cases rows with
 | nil =>
  refine ⟨a, n, c, [], e, hn, rfl, by simp, fun O => ⟨by simp [hn], by simp, ?_⟩⟩
  cases a with
  | none => exact .inl ⟨rfl, hn⟩
  | some p => exact .inr ⟨p, rfl, by simp⟩
 | cons r rows =>
  obtain ⟨b, off, vs, e', h1, h2, h3⟩ := hr.flat (by simp)
  refine ⟨a, n, c, vs, e, hn, h1, h1.cell1 hc, fun O => ⟨by rw [h2, hn], h1.cell1 hc, .inr ⟨_, e', fun j u hj => ⟨b, off, rfl, ?_⟩⟩⟩⟩
  have := h3 j u hj
  rw [Nat.zero_mul, Nat.add_zero] at this
  exact .inl this
section
variable {E : World} {P : Program} {ops : Array Oper} {K : AEnv → OL → Prop} {env : AEnv} {O O' : OL} {rest : List Oper}
variable {d ty : Nat} {pos : String} {af : Array Edge} {x y z : Operand} {t u e : TypeId}
theorem SLA.split {I : G} {O1 O2 : OL} {F : List (Nat × Obj)} {E w : World} (hO : O.Perm (O1 ++ O2)) (h : SLA I O F E w) : ∃ L2, RepOs I O2 L2 ∧ SLA I O1 (L2 ++ F) E w := by
 obtain ⟨ht, L, hL, hS⟩ := h
 obtain ⟨L', h1, h2⟩ := hL.perm hO
 obtain ⟨A, B, rfl, h3, h4⟩ := RepOs.append.1 h1
 exact ⟨B, h4, ht, A, h3, hS.perm (by rw [← List.append_assoc]; exact (h2.append_right F).symm)⟩
theorem SLA.join {I J : G} {O1 O2 : OL} {L2 F : List (Nat × Obj)} {E w : World} (hle : I.le J) (h2 : RepOs I O2 L2) (h : SLA J O1 (L2 ++ F) E w) : SLA J (O1 ++ O2) F E w := by
 obtain ⟨ht, L, hL, hS⟩ := h
 exact ⟨ht, L ++ L2, RepOs.append.2 ⟨L, L2, rfl, hL, h2.mono hle⟩, by rw [List.append_assoc]; exact hS⟩
theorem SLA.drops {I : G} {O1 : OL} {L2 F : List (Nat × Obj)} {E w : World} (h : SLA I O1 (L2 ++ F) E w) : SL I.k (L2 ++ F) E w := by
 obtain ⟨ht, L, hL, hS⟩ := h
 exact hS.dropAll
theorem AOps.callA {f : FuncId} {args : List Operand} {tys : Array TypeId} {as0 : List AV} {O1 O2 : OL} {R : AV → OL → Prop} (ha : args.map (aev env) = as0) (hO : O.Perm (O1 ++ O2)) (hc : ACall P E f as0 O1 R)
  (k : ∀ r O1', R r O1' → AOps P E ops K rest (aupd env d r) (O1' ++ O2)) : AOps P E ops K (Oper.mk (some d) (.call { callee := .value (.func f), args := args.toArray, argTypes := tys }) ty pos af none :: rest) env O := fun I F ρ w h1 h2 => by
 obtain ⟨L2, hL2, h3⟩ := h2.split hO
 refine Ops.callF (hc I (L2 ++ F) w (args.map (ev ρ)) (ha ▸ h1.evs args) h3) ?_
 rintro v w' ⟨J, r, O1', hle, hr, hS, hR⟩
 exact yj (fun _ _ => postK.up hle) _ _ _ (k r O1' hR J F _ _ ((h1.mono hle).upd d hr) (hS.join hle hL2))
theorem AOps.callP {f : FuncId} {args : List Operand} {tys : Array TypeId} {as0 : List AV} {r : AV} (hc : AFun P E f as0 r) (ha : args.map (aev env) = as0)
  (k : AOps P E ops K rest (aupd env d r) O) : AOps P E ops K (Oper.mk (some d) (.call { callee := .value (.func f), args := args.toArray, argTypes := tys }) ty pos af none :: rest) env O := fun I F ρ w h1 h2 => by
 obtain ⟨L2, hL2, h3⟩ := h2.split (O1 := []) (O2 := O) (.refl _)
 refine Ops.callF (hc I (L2 ++ F) w (args.map (ev ρ)) (ha ▸ h1.evs args) h3) ?_
 rintro v w' ⟨J, r', O1', hle, hr, hS, rfl⟩
 exact yj (fun _ _ => postK.up hle) _ _ _ (k J F _ _ ((h1.mono hle).upd d hr) ⟨hS.1, L2, hL2.mono hle, hS.drops⟩)
def GStep (E : World) (env : AEnv) (O : OL) (env' : AEnv) (O' : OL) : Prop := ∀ I F ρ w, RepE I env ρ → SLA I O F E w → ∃ J, I.le J ∧ RepE J env' ρ ∧ SLA J O' F E w
end
section
variable {E : World} {P : Program} {n : Nat} {os : Array Oper} {env env' : AEnv} {O O' : OL}
theorem GStep.wp {c : Code} {Q : Exit → AEnv → OL → Prop} (g : GStep E env O env' O') (h : AWP P E n c Q env' O') : AWP P E n c Q env O := fun I F ρ w h1 h2 => by
 obtain ⟨J, hle, h3, h4⟩ := g I F ρ w h1 h2
 exact (h J F ρ w h3 h4).mono fun _ _ _ => postE.up hle
theorem GStep.ops {K : AEnv → OL → Prop} {l : List Oper} (g : GStep E env O env' O') (h : AOps P E os K l env' O') : AOps P E os K l env O := fun I F ρ w h1 h2 => by
 obtain ⟨J, hle, h3, h4⟩ := g I F ρ w h1 h2
 exact yj (fun _ _ => postK.up hle) _ _ _ (h J F ρ w h3 h4)
theorem GStep.fin {rs : Array ResultVar} {R : AV → OL → Prop} (g : GStep E env O env' O') (h : afin P E rs R .ret env' O') : afin P E rs R .ret env O := fun I F ρ w h1 h2 => by
 obtain ⟨J, hle, h3, h4⟩ := g I F ρ w h1 h2
 obtain ⟨v, h5, K, x, O'', h6, h7⟩ := h J F ρ w h3 h4
 exact ⟨v, h5, K, x, O'', hle.trans h6, h7⟩
theorem GStep.perm (h : O.Perm O') : GStep E env O env O' := fun I F ρ w h1 h2 => by
 obtain ⟨L2, hL2, h3⟩ := h2.split (O1 := O') (O2 := []) (by simpa using h)
 have : L2 = [] := hL2
 subst this
 exact ⟨I, .refl _, h1, h3⟩
end
section
variable {E : World} {P : Program} {n : Nat} {ops : Array Oper} {env : AEnv} {O O' : OL}
theorem adopt_wp {c : Code} {Q : Exit → AEnv → OL → Prop} {t k : Nat} {T : TypeId} (hv : env t = .raw (.slice none 0 0)) (h : ∀ i, AWP P E n c Q (aupd env t (.own i 0)) ((i, .grow k T []) :: O)) : AWP P E n c Q env O := fun I F ρ w h1 h2 => by
 obtain ⟨i, hi⟩ := h2.name
 obtain ⟨J, e1, hle, e2, htop⟩ := hi (none, 0)
 obtain ⟨_, L, hL, hS⟩ := h2
 have h3 : ρ t = .slice none 0 0 := by have := h1 t; rw [hv] at this; exact this
 refine (h i J F ρ w (fun s=>?_) ⟨htop, _, ⟨[], L, rfl, ⟨none, 0, 0, [], e2, rfl, by simp, OwnS.nil k T⟩, hL.mono hle⟩, by rw [e1]; exact hS⟩).mono fun _ _ _ => postE.up hle
 unfold aupd
 cases hb : Nat.beq s t with
 | false => exact RepV.mono hle _ _ (h1 s)
 | true =>
  have : s = t := Nat.eq_of_beq_eq_true hb
  subst this
  exact ⟨none, 0, e2, h3⟩
theorem know {I : G} {F : List (Nat × Obj)} {E w : World} {i k m : Nat} {T : TypeId} {rows : List (List AV)} (hO : Pick O i (.grow k T rows.flatten) O') (hk : ∀ r ∈ rows, r.length = k) (hk0 : 0 < k) (hm : rows.length = m) (h : SLA I O F E w) :
  ∃ J, I.le J ∧ SLA J O' F E w ∧ ∀ v, RepV I (.own i m) v → RepV J (.fro k rows) v := by
 obtain ⟨ht, L, hL, hS⟩ := h
 obtain ⟨A, B, hp, ⟨b, c, n, vs, e1, hvs, hvc, hown⟩, hB⟩ := hO.rep hL
 simp only at e1
 have hS2 : SL I.k (A ++ (B ++ F)) E w := hS.perm (by rw [← List.append_assoc]; exact (hp.append_right F).symm)
 have hflat : rows.flatten.length = rows.length * k := by
  clear hO hvs hm
  induction rows with
  | nil => simp
  | cons r rows ih => simp only [List.flatten_cons, List.length_append, List.length_cons, ih (fun r h => hk r (by simp [h])), hk r (by simp), Nat.add_mul]; omega
 have hnm : n = m := by
  have h5 := hown.1
  have h6 := hvs.length
  have : n * k = m * k := by rw [← hm]; omega
  exact Nat.eq_of_mul_eq_mul_right hk0 this
 subst hnm
 obtain ⟨h5, h6, h7⟩ := hown
 rcases h7 with ⟨ea, rfl, rfl⟩ | ⟨b', junk, ea, rfl, hj⟩
 ·refine ⟨I, .refl _, ⟨ht, B, hB, by simpa using hS2⟩, ?_⟩
  rintro v ⟨b2, c2, e2, rfl⟩
  rw [e1] at e2
  simp only [Option.some.injEq, Prod.mk.injEq] at e2
  obtain ⟨rfl, rfl⟩ := e2
  have h0 : rows = [] := List.eq_nil_of_length_eq_zero (by omega)
  subst h0
  exact ⟨adr b, n, 0, rfl, hm.symm, h6, fun _ => rfl, trivial⟩
 ·cases b with
  | none => simp [adr] at ea
  | some b =>
   simp [adr] at ea
   subst ea
   obtain ⟨hl, hS3⟩ := SL.freeze (by simpa using hS2 : SL I.k ((b, .cells (vs ++ junk).toArray T (0, 0)) :: (B ++ F)) E w)
   let J : G := ⟨I.k.put b (.cells (vs ++ junk).toArray T (0, 0)), I.h⟩
   have hle : I.le J := ⟨hl, fun _ _ h => h⟩
   have hb : J.k b = some (.cells (vs ++ junk).toArray T (0, 0)) := Ghost.put_same _ _ _
   refine ⟨J, hle, ⟨ht, B, hB.mono hle, hS3⟩, ?_⟩
   rintro v ⟨b2, c2, e2, rfl⟩
   rw [e1] at e2
   simp only [Option.some.injEq, Prod.mk.injEq] at e2
   obtain ⟨rfl, rfl⟩ := e2
   refine ⟨adr (some b), n, c, rfl, hm.symm, h6, fun h => by simp [adr] at h, RepR.of_flat hb rows vs 0 hk (RepL.mono hle _ _ hvs) fun i u hu => ?_⟩
   rw [Nat.zero_mul, Nat.zero_add, List.getElem?_toArray, List.getElem?_append_left (List.getElem?_eq_some_iff.1 hu).1]
   exact hu
theorem GStep.know {t i k m : Nat} {T : TypeId} {rows : List (List AV)} (hv : env t = .own i m) (hO : Pick O i (.grow k T rows.flatten) O') (hk : ∀ r ∈ rows, r.length = k) (hk0 : 0 < k) (hm : rows.length = m) : GStep E env O (aupd env t (.fro k rows)) O' := fun I F ρ w h1 h2 => by
 obtain ⟨J, hle, h3, h4⟩ := Go.Proofs.YthlpjaleclchgaaGreatDoor.know hO hk hk0 hm h2
 refine ⟨J, hle, fun s=>?_, h3⟩
 unfold aupd
 cases hb : Nat.beq s t with
 | false => exact RepV.mono hle _ _ (h1 s)
 | true =>
  have : s = t := Nat.eq_of_beq_eq_true hb
  subst this
  exact h4 _ (hv ▸ h1 s)
end
end Go.Proofs.YthlpjaleclchgaaGreatDoor
namespace Go.Proofs.YthlpjaleclchgaaGreatDoor
open Go.Proofs.Tryz
theorem AnyV.mono {P : Program} {ops : Array Oper} {S0 S0' S S' : World → Prop} {W : Nat → Bool} {Q Q' : Env → World → Prop} (hS0 : ∀ w, S0 w → S0' w) (hS : ∀ w, S w → S' w) (hQ : ∀ ρ w, Q ρ w → Q' ρ w) : ∀ (fuel : Nat) (listed : Array Bool) (ρ : Env) (w : World),
  AnyV P ops S0 S W Q fuel listed ρ w → AnyV P ops S0' S' W Q' fuel listed ρ w
 | 0, _, _, _, h => ⟨h.1, hQ _ _ h.2⟩
 | fuel + 1, _, _, _, h => ⟨fun h0 => hQ _ _ (h.1 h0), fun i hi o ho => yj (fun _ _ ⟨a, b⟩ => ⟨⟨hS0 _ a.1, a.2.imp id (hS _)⟩, AnyV.mono hS0 hS hQ fuel _ _ _ b⟩) _ _ _ (h.2 i hi o ho)⟩
def stays (J0 : Ghost) (L : List (Nat × Obj)) (E : World) (w : World) : Prop := ∃ J L', J0.le J ∧ SL J L' E w ∧ ∀ y ∈ L, y ∈ L'
def AAny (P : Program) (E : World) (l : List Oper) (W : Nat → Bool) (Q : AEnv → OL → Prop) (fuel : Nat) (listed : Array Bool) (env : AEnv) (Os Om : OL) : Prop :=
 ∀ I F ρ w Ls, RepE I env ρ → RepOs I Os Ls → SLA I Om (Ls ++ F) E w → AnyV P l.toArray (stays I.k [] E) (stays I.k Ls E) W (postK I F E Q) fuel listed ρ w
def AAnyW (P : Program) (E : World) (l : List Oper) (W : Nat → Bool) (Q : AEnv → OL → Prop) (fuel : Nat) (listed : Array Bool) (env : AEnv) (O : OL) : Prop :=
 ∀ I F ρ w, RepE I env ρ → SLA I O F E w → ∀ S, AnyV P l.toArray (stays I.k [] E) S W (postK I F E Q) fuel listed ρ w
theorem SLA.here {I : G} {Om : OL} {Ls F : List (Nat × Obj)} {E w : World} (h : SLA I Om (Ls ++ F) E w) : stays I.k Ls E w := by
 obtain ⟨_, L, _, hS⟩ := h
 exact ⟨I.k, _, .refl _, hS, fun y hy => by simp [hy]⟩
theorem SLA.together {I : G} {Os Om : OL} {Ls F : List (Nat × Obj)} {E w : World} (hs : RepOs I Os Ls) (h : SLA I Om (Ls ++ F) E w) : SLA I (Os ++ Om) F E w := by
 obtain ⟨ht, L, hL, hS⟩ := h
 refine ⟨ht, Ls ++ L, RepOs.append.2 ⟨Ls, L, rfl, hs, hL⟩, hS.perm ?_⟩
 rw [← List.append_assoc]
 exact (List.perm_append_comm).append_right F
theorem stays.less {J0 : Ghost} {L : List (Nat × Obj)} {E w : World} (h : stays J0 L E w) : stays J0 [] E w := let ⟨J, L', a, b, _⟩ := h; ⟨J, L', a, b, fun _ h => (by cases h)⟩
section
variable {E : World} {P : Program} {n : Nat} {l : List Oper} {W : Nat → Bool} {Q : AEnv → OL → Prop} {fuel : Nat} {listed : Array Bool} {env : AEnv} {O Os Om : OL}
variable {d ty : Nat} {op : Op} {pos : String} {af : Array Edge}
theorem AWP.regionDraw (W : Nat → Bool) {Q : Exit → AEnv → OL → Prop} {id : Nat} (hm : P.follows .mixedOrders = true) (hd : dstsOk n l = true) (hO : O.Perm (Om ++ Os)) (h : AAny P E l W (Q .normal) l.length (Array.replicate l.length false) env Os Om) : AWP P E n (.region id l.toArray true) Q env O := fun I F ρ w h1 h2 => by
 obtain ⟨Ls, hLs, h3⟩ := h2.split hO
 refine WP.regionDraw (stays I.k [] E) (stays I.k Ls E) W hm hd fun w' hw => ?_
 subst hw
 refine h I F ρ _ Ls h1 hLs ?_
 obtain ⟨ht, L, hL, hS⟩ := h3
 exact ⟨ht, L, hL, hS.drew⟩
theorem dirty_of {i : Nat} (hr : Region.ready .any l.toArray listed = [i]) (hW : (W i || !cleanB W listed) = true) : dirty W (listed.setIfInBounds i true) := by
 have h1 := (mem_ready.1 (show i ∈ Region.ready .any l.toArray listed by rw [hr]; exact .head _)).1
 have hi : i < listed.size := by
  rcases Nat.lt_or_ge i listed.size with h | h
  ·exact h
  ·rw [Array.getD_eq_getD_getElem?, Array.getElem?_eq_none h] at h1; cases h1
 rcases Bool.or_eq_true_iff.1 hW with h | h
 ·refine ⟨i, ?_, h⟩
  rw [Array.getD_eq_getD_getElem?, Array.getElem?_setIfInBounds, if_pos rfl, if_pos hi]; rfl
 ·refine dirty_mono ?_
  have h : cleanB W listed = false := by simpa using h
  unfold cleanB at h
  obtain ⟨j, _, hj⟩ := List.all_eq_false.1 h
  simp only [Bool.not_eq_true, Bool.not_eq_false', Bool.and_eq_true] at hj
  exact ⟨j, by simpa using hj⟩
theorem AAny.takeK {i : Nat} {x : AV} (hi : l[i]? = some (Oper.mk (some d) op ty pos af none)) (hs : Region.noSelect l.toArray = true) (hf : Region.free .any l.toArray listed i = true)
  (hr : (Region.ready .any l.toArray listed).contains i = true) (hWi : W i = false) (hg : Gv P env [] (Oper.mk (some d) op ty pos af none) x)
  (h : AAny P E l W Q fuel (listed.setIfInBounds i true) (aupd env d x) Os Om) : AAny P E l W Q (fuel + 1) listed env Os Om := fun I F ρ w Ls h1 hLs h2 => by
 obtain ⟨v, hv, hrun⟩ := hg I [] E ρ h1 rfl
 exact AnyV.takeK hi hs hf hr hWi h2.here.less (.inr h2.here) (fun w ⟨J, L', a, b, c⟩ => hrun w J L' a b c) (h I F _ w Ls (h1.upd d hv) hLs h2)
theorem AAny.take {i : Nat} {x : AV} (hi : l[i]? = some (Oper.mk (some d) op ty pos af none)) (hs : Region.noSelect l.toArray = true) (hf : Region.free .any l.toArray listed i = true)
  (hr : (Region.ready .any l.toArray listed).contains i = true) (hW : waitsB l i W = true) (hWi : W i = false) (hcl : cleanB W listed = true) (hg : Gv P env Os (Oper.mk (some d) op ty pos af none) x)
  (h : AAny P E l W Q fuel (listed.setIfInBounds i true) (aupd env d x) Os Om) : AAny P E l W Q (fuel + 1) listed env Os Om := fun I F ρ w Ls h1 hLs h2 => by
 obtain ⟨v, hv, hrun⟩ := hg I Ls E ρ h1 hLs
 exact AnyV.take hi hs hf hr hW hWi hcl h2.here.less h2.here (fun w ⟨J, L', a, b, c⟩ => hrun w J L' a b c) (h I F _ w Ls (h1.upd d hv) hLs h2)
theorem AAny.takeT {i j s : Nat} {b t : Bool} {x : AV} (hi : l[i]? = some (Oper.mk (some d) op ty pos af (some (j, b)))) (hg0 : (l[j]?).bind (fun o : Oper => o.dst) = some s) (hv0 : env s = .bool t) (ht : t = b) (hs : Region.noSelect l.toArray = true) (hf : Region.free .any l.toArray listed i = true)
  (hr : (Region.ready .any l.toArray listed).contains i = true) (hW : waitsB l i W = true) (hWi : W i = false) (hcl : cleanB W listed = true) (hg : Gv P env Os (Oper.mk (some d) op ty pos af none) x)
  (h : AAny P E l W Q fuel (listed.setIfInBounds i true) (aupd env d x) Os Om) : AAny P E l W Q (fuel + 1) listed env Os Om := fun I F ρ w Ls h1 hLs h2 => by
 obtain ⟨v, hv, hrun⟩ := hg I Ls E ρ h1 hLs
 exact AnyV.takeT hi hg0 (by have := h1 s; rw [hv0] at this; exact this) ht hs hf hr hW hWi hcl h2.here.less h2.here (fun w ⟨J, L', a, b, c⟩ => hrun w J L' a b c) (h I F _ w Ls (h1.upd d hv) hLs h2)
theorem AAny.takeF {i j s : Nat} {b t : Bool} (hi : l[i]? = some (Oper.mk (some d) op ty pos af (some (j, b)))) (hg0 : (l[j]?).bind (fun o : Oper => o.dst) = some s) (hv0 : env s = .bool t) (ht : t = !b) (hs : Region.noSelect l.toArray = true) (hf : Region.free .any l.toArray listed i = true)
  (hr : (Region.ready .any l.toArray listed).contains i = true) (hW : waitsB l i W = true) (hWi : W i = false) (hcl : cleanB W listed = true)
  (h : AAny P E l W Q fuel (listed.setIfInBounds i true) (aupd env d (.raw undef)) Os Om) : AAny P E l W Q (fuel + 1) listed env Os Om := fun I F ρ w Ls h1 hLs h2 =>
 AnyV.takeF hi hg0 (by have := h1 s; rw [hv0] at this; exact this) ht hs hf hr hW hWi hcl h2.here.less h2.here (h I F _ w Ls (h1.upd d rfl) hLs h2)
theorem AAny.one {i : Nat} {o : Oper} (hi : l[i]? = some o) (hr : Region.ready .any l.toArray listed = [i])
  (h : AOps P E l.toArray (fun env' Om' => AAny P E l W Q fuel (listed.setIfInBounds i true) env' Os Om') [o] env Om) : AAny P E l W Q (fuel + 1) listed env Os Om := fun I F ρ w Ls h1 hLs h2 =>
 AnyV.one hi hr (yj (fun ρ' w' ⟨J, env', Om', a, b, c, d⟩ => by
  have hst : stays I.k Ls E w' := by
   obtain ⟨J', L', h3, h4, h5⟩ := c.here
   exact ⟨J', L', a.k.trans h3, h4, h5⟩
  refine ⟨⟨hst.less, .inr hst⟩, AnyV.mono ?_ ?_ (fun _ _ => postK.up a) _ _ _ _ (d J F ρ' w' Ls b (hLs.mono a) c)⟩
  ·rintro w ⟨J', L', h3, h4⟩; exact ⟨J', L', a.k.trans h3, h4⟩
  ·rintro w ⟨J', L', h3, h4⟩; exact ⟨J', L', a.k.trans h3, h4⟩) _ _ _ (h I (Ls ++ F) ρ w h1 h2))
theorem AAny.done (hr : Region.ready .any l.toArray listed = []) (h : Q env (Os ++ Om)) : AAny P E l W Q fuel listed env Os Om := fun I F ρ w Ls h1 hLs h2 =>
 AnyV.done hr ⟨I, env, Os ++ Om, .refl _, h1, SLA.together hLs h2, h⟩
theorem AAny.writes (h : AAnyW P E l W Q fuel listed env (Os ++ Om)) : AAny P E l W Q fuel listed env Os Om := fun I F ρ w Ls h1 hLs h2 => h I F ρ w h1 (SLA.together hLs h2) _
theorem AAnyW.one {i : Nat} {o : Oper} (hi : l[i]? = some o) (hr : Region.ready .any l.toArray listed = [i]) (hW : (W i || !cleanB W listed) = true)
  (h : AOps P E l.toArray (fun env' O' => AAnyW P E l W Q fuel (listed.setIfInBounds i true) env' O') [o] env O) : AAnyW P E l W Q (fuel + 1) listed env O := fun I F ρ w h1 h2 S =>
 AnyV.one hi hr (yj (fun ρ' w' ⟨J, env', O', a, b, c, d⟩ => ⟨⟨(by
  obtain ⟨_, L', _, h4⟩ := c
  exact ⟨J.k, _, a.k, h4, fun _ h => (by cases h)⟩), .inl (dirty_of hr hW)⟩, AnyV.mono (fun _ ⟨J', L', h3, h4⟩ => ⟨J', L', a.k.trans h3, h4⟩) (fun _ h => h) (fun _ _ => postK.up a) _ _ _ _ (d J F ρ' w' b c S)⟩) _ _ _ (h I F ρ w h1 h2))
theorem AAnyW.done (hr : Region.ready .any l.toArray listed = []) (h : Q env O) : AAnyW P E l W Q fuel listed env O := fun I F ρ w h1 h2 S =>
 AnyV.done hr ⟨I, env, O, .refl _, h1, h2, h⟩
end
section
variable {E : World} {P : Program} {n : Nat} {env : AEnv} {O O' O'' : OL}
end
def AV.plain : AV → Bool
 | .bool _ | .int _ _ | .str _ => true
 | _ => false
theorem AV.plain_rep {I J : G} {x : AV} {v : Value} (hp : x.plain = true) (h : RepV I x v) : RepV J x v := by
 cases x <;> first | exact h | cases hp
theorem flat_len {k : Nat} {rows : List (List AV)} (hk : ∀ r ∈ rows, r.length = k) : rows.flatten.length = rows.length * k := by
 induction rows with
 | nil => simp
 | cons r rows ih => simp only [List.flatten_cons, List.length_append, List.length_cons, ih (fun r h => hk r (by simp [h])), hk r (by simp), Nat.add_mul]; omega
end Go.Proofs.YthlpjaleclchgaaGreatDoor
namespace Go.Proofs.YthlpjaleclchgaaGreatDoor
open Go.Proofs.Tryz
inductive Part : OL → OL → OL → Prop
 | rest (O) : Part O O []
 | l {x O A B} : Part O A B → Part (x :: O) (x :: A) B
 | r {x O A B} : Part O A B → Part (x :: O) A (x :: B)
theorem Part.perm {O A B : OL} (h : Part O A B) : O.Perm (A ++ B) := by
 induction h with
 | rest => simp
 | l _ ih => exact ih.cons _
 | r _ ih => exact (ih.cons _).trans List.perm_middle.symm
section
variable {E : World} {P : Program} {n : Nat} {ops : Array Oper} {K : AEnv → OL → Prop} {env : AEnv} {O O' : OL} {rest : List Oper}
variable {d ty : Nat} {pos : String} {af : Array Edge} {x y z : Operand} {t u e : TypeId}
theorem AOps.storeW {i m : Nat} {T : TypeId} {v : AV} {cs l : List AV} (hs : ∀ w, (sizeOf t).run P w = .ok m w) (hx : aev env x = .po i 0) (hy : aev env y = v) (hv : v.sto = true) (hl : v.cs = l) (hl1 : l.all AV.cell = true) (hn : l.length = m)
  (hO : Put O i (.cells T cs) (.cells T l) O') (hb : cs.length = m) (k : AOps P E ops K rest env O') : AOps P E ops K (Oper.mk none (.store t x y) ty pos af none :: rest) env O :=
 AOps.storeC (off := 0) hs hx hy hv hl hl1 hn hO (by rw [hb]; simp) (by rw [Nat.zero_add, List.drop_eq_nil_of_le (by omega)]; simp) k
theorem Gv.field1 {fs : Array Field} {f : Field} {i : Nat} {cs : List AV} {v : AV} (ht : P.underlying t = some (.struct fs)) (hf : fs[i]? = some f) (ha : ∀ w, (isAgg f.type).run P w = .ok false w) (hx : aev env x = .agg cs) (hv : cs[f.offset]? = some v) :
  Gv P env O (Oper.mk (some d) (.field t x i) ty pos af none) v := Gv.ofEv fun I ρ h => by
 have h2 := h.ev x
 rw [hx] at h2
 obtain ⟨vs, e, hr⟩ := h2
 obtain ⟨u, hu, hru⟩ := hr.get hv
 exact ⟨u, hru, fun w => by simp [execOp, e, Instr.field, run_underlying ht, hf, part, ha, hu, asAgg, Result.andThen]⟩
theorem Gv.index1 {n j : Nat} {i : Int} {cs : List AV} {v : AV} (ht : P.underlying t = some (.array n e)) (ha : ∀ w, (isAgg e).run P w = .ok false w) (hs : ∀ w, (sizeOf e).run P w = .ok 1 w) (hx : aev env x = .agg cs) (hy : aev env y = .int .i64 i) (hi : i = (j : Int)) (hj : j < n) (hv : cs[j]? = some v) :
  Gv P env O (Oper.mk (some d) (.index t x y) ty pos af none) v := Gv.ofEv fun I ρ h => by
 have h2 := h.ev x
 rw [hx] at h2
 obtain ⟨vs, ex, hr⟩ := h2
 obtain ⟨u, hu, hru⟩ := hr.get hv
 refine ⟨u, hru, fun w=>?_⟩
 subst hi
 simp [execOp, ex, evI h hy, Instr.index, asIntOf, run_underlying ht, hj, hs, part, ha, hu, Result.andThen]
theorem Gv.indexA {n j k : Nat} {i : Int} {cs l : List AV} (ht : P.underlying t = some (.array n e)) (ha : ∀ w, (isAgg e).run P w = .ok true w) (hs : ∀ w, (sizeOf e).run P w = .ok k w) (hx : aev env x = .agg cs) (hy : aev env y = .int .i64 i) (hi : i = (j : Int)) (hj : j < n) (hl : (cs.drop (j * k)).take k = l) :
  Gv P env O (Oper.mk (some d) (.index t x y) ty pos af none) (.agg l) := Gv.ofEv fun I ρ h => by
 have h2 := h.ev x
 rw [hx] at h2
 obtain ⟨vs, ex, hr⟩ := h2
 refine ⟨.agg ((vs.drop (j * k)).take k).toArray, ⟨_, rfl, hl ▸ (hr.drop _).take _⟩, fun w=>?_⟩
 subst hi
 simp [execOp, ex, evI h hy, Instr.index, asIntOf, run_underlying ht, hj, hs, part, ha, Result.andThen]
theorem AOps.rangeT {s : ByteArray} (ht : P.underlying t = some .string) (hx : aev env x = .str s) (k : ∀ i, AOps P E ops K rest (aupd env d (.po i 0)) ((i, .iter s 0) :: O)) : AOps P E ops K (Oper.mk (some d) (.range t x) ty pos af none :: rest) env O := fun I F ρ w h1 h2 => by
 obtain ⟨L, hL, hS⟩ := h2.2
 obtain ⟨i, hi⟩ := h2.name
 refine Ops.rangeT ht hS (evT h1 hx) fun b w' hS' => ?_
 obtain ⟨J, e1, hle, e2, htop⟩ := hi (some b, 0)
 exact yj (fun _ _ => postK.up hle) _ _ _ (k i J F _ _ ((h1.mono hle).upd d ⟨b, 0, e2, rfl⟩) ⟨htop, _, ⟨_, L, rfl, ⟨b, 0, e2, rfl⟩, hL.mono hle⟩, by rw [e1]; exact hS'⟩)
theorem AOps.nextT {i p : Nat} {s : ByteArray} (hx : aev env x = .po i 0) (hO : Put O i (.iter s p) (.iter s (p + (Utf8.decode s p).2)) O') (hp : p < s.size)
  (k : AOps P E ops K rest (aupd env d (.tup [.bool true, .int .i64 p, .int .i32 (Utf8.decode s p).1])) O') : AOps P E ops K (Oper.mk (some d) (.next x true) ty pos af none :: rest) env O := fun I F ρ w h1 h2 => by
 obtain ⟨ht, L, hL, hS⟩ := h2
 have h3 := h1.ev x
 rw [hx] at h3
 obtain ⟨b, c, e1, e⟩ := h3
 obtain ⟨A, B, hp1, ⟨b', c', e2, rfl⟩, hback⟩ := hO.rep hL
 simp only at e2
 rw [e1] at e2
 simp only [Option.some.injEq, Prod.mk.injEq] at e2
 obtain ⟨rfl, rfl⟩ := e2
 have hS2 : SL I.k ((b, .stringIter s p) :: (B ++ F)) E w := hS.perm ((hp1.append_right F).symm)
 refine Ops.nextT hS2 e hp fun w' hS' => ?_
 obtain ⟨L', h7, h8⟩ := hback (G.le.refl I) (A' := [(b, .stringIter s (p + (Utf8.decode s p).2))]) ⟨b, c, e1, rfl⟩
 exact k I F _ _ (h1.upd d ⟨[.bool true, .int .i64 p, .int .i32 (Utf8.decode s p).1], rfl, ⟨_, _, rfl, rfl, ⟨_, _, rfl, rfl, ⟨_, _, rfl, rfl, rfl⟩⟩⟩⟩) ⟨ht, L', h7, hS'.perm (h8.append_right F)⟩
theorem AOps.nextTover {i p : Nat} {s : ByteArray} (hx : aev env x = .po i 0) (hO : Pick O i (.iter s p) O') (hp : ¬ p < s.size)
  (k : AOps P E ops K rest (aupd env d (.tup [.bool false])) O) : AOps P E ops K (Oper.mk (some d) (.next x true) ty pos af none :: rest) env O := fun I F ρ w h1 h2 => by
 obtain ⟨ht, L, hL, hS⟩ := id h2
 have h3 := h1.ev x
 rw [hx] at h3
 obtain ⟨b, c, e1, e⟩ := h3
 obtain ⟨A, B, hp1, ⟨b', c', e2, rfl⟩, _⟩ := hO.rep hL
 simp only at e2
 rw [e1] at e2
 simp only [Option.some.injEq, Prod.mk.injEq] at e2
 obtain ⟨rfl, rfl⟩ := e2
 have hS2 : SL I.k ((b, .stringIter s p) :: (B ++ F)) E w := hS.perm (by have := (hp1.append_right F).symm; simpa using this)
 exact Ops.nextTover hS2 e hp (k I F _ _ (h1.upd d ⟨[.bool false], rfl, ⟨_, _, rfl, rfl, rfl⟩⟩) h2)
theorem AOps.nextA {i p : Nat} {s : ByteArray} {c : UInt8} (hx : aev env x = .po i 0) (hc : s.data[p]? = some c) (hc2 : c < 128) (hO : Put O i (.iter s p) (.iter s (p + 1)) O')
  (k : AOps P E ops K rest (aupd env d (.tup [.bool true, .int .i64 p, .int .i32 (c.toNat : Int)])) O') : AOps P E ops K (Oper.mk (some d) (.next x true) ty pos af none :: rest) env O := by
 have hp : p < s.size := by
  by_cases hp : p < s.data.size
  ·exact hp
  ·rw [Array.getElem?_eq_none (by omega)] at hc; cases hc
 have hd := decode_ascii hc hc2
 exact AOps.nextT hx (by rw [hd]; exact hO) hp (by rw [hd]; exact k)
end
end Go.Proofs.YthlpjaleclchgaaGreatDoor
namespace Go.Proofs.YthlpjaleclchgaaGreatDoor
open Go.Proofs.Tryz
theorem fill_full {k : Nat} : ∀ (xs : List (List AV)) (i : Nat) (pre zs : List AV), (∀ x ∈ xs, x.length = k) → zs.length = xs.length * k → pre.length = i * k →
  fillL (fun i => some (i * k, k)) (pre ++ zs) ((xs.zipIdx i).map fun p => (p.2, p.1)) = some (pre ++ xs.flatten)
 | [], i, pre, zs, _, h, _ => by simp at h; subst h; simp [fillL]
 | x :: xs, i, pre, zs, hk, h, hp => by
  have hx := hk x (by simp)
  have e1 : Nat.beq x.length k = true := by rw [hx]; exact Nat.beq_refl k
  have e2 : Nat.ble (i * k + k) (pre ++ zs).length = true := by
   rw [Nat.ble_eq, List.length_append, hp, h, List.length_cons, Nat.add_mul]; omega
  simp only [List.zipIdx_cons, List.map_cons, fillL, e1, e2, Bool.and_self, cond_true]
  have h1 : (pre ++ zs).take (i * k) = pre := by rw [← hp]; simp
  have h2 : (pre ++ zs).drop (i * k + k) = zs.drop k := by rw [← hp, List.drop_append]; simp
  rw [h1, h2, ← List.append_assoc]
  rw [fill_full xs (i + 1) (pre ++ x) (zs.drop k) (fun y hy => hk y (by simp [hy])) (by rw [List.length_drop, h, List.length_cons, Nat.add_mul]; omega) (by rw [List.length_append, hp, hx, Nat.add_mul]; omega)]
  simp
theorem flat_at {α : Type} {enc : α → List AV} {k : Nat} (hk : ∀ x, (enc x).length = k) : ∀ (l : List α) (j : Nat) {x : α}, l[j]? = some x → ((l.flatMap enc).drop (j * k)).take k = enc x
 | [], j, x, h => by simp at h
 | y :: l, 0, x, h => by simp at h; subst h; simp [List.take_append_of_le_length, hk]
 | y :: l, j + 1, x, h => by
  simp only [List.getElem?_cons_succ] at h
  rw [← flat_at hk l j h, List.flatMap_cons, Nat.add_mul, Nat.one_mul, Nat.add_comm, ← List.drop_drop]
  congr 2
  rw [← hk y]; simp
section
variable {E : World} {P : Program} {env : AEnv} {O : OL} {d ty : Nat} {pos : String} {af : Array Edge} {t : TypeId}
theorem Gv.buildAF {k : Nat} {zs : List AV} {xs : List (List AV)} {l : List (Nat × Operand)} (hpl : PlacesA P t k zs) (hs : l.all (fun p => (aev env p.2).sto) = true) (hv : l.map (fun p => (p.1, (aev env p.2).cs)) = (xs.zipIdx 0).map fun p => (p.2, p.1))
  (hk : xs.all (fun x => Nat.beq x.length k) = true) (hz : zs.length = xs.length * k) : Gv P env O (Oper.mk (some d) (.build t l.toArray) ty pos af none) (.agg xs.flatten) :=
 Gv.buildA hpl hs hv (by
  have := fill_full xs 0 [] zs (fun x hx => Nat.eq_of_beq_eq_true (List.all_eq_true.1 hk x hx)) hz (by simp)
  simpa using this)
end
inductive Swp : OL → Nat → AObj → Nat → AObj → OL → Prop
 | head {i o j o' O} : Swp ((i, o) :: O) i o j o' ((j, o') :: O)
 | tail {x O i o j o' O'} : Swp O i o j o' O' → Swp (x :: O) i o j o' (x :: O')
theorem Swp.rep {I : G} {O O' : OL} {i j : Nat} {o o' : AObj} (h : Swp O i o j o' O') : ∀ {L}, RepOs I O L → ∃ A B, L.Perm (A ++ B) ∧ RepO I (i, o) A ∧
  ∀ {J : G} {A'}, I.le J → RepO J (j, o') A' → ∃ L', RepOs J O' L' ∧ L'.Perm (A' ++ B) := by
 induction h with
 | head => rintro L ⟨A, B, e, h1, h2⟩; exact ⟨A, B, e ▸ .refl _, h1, fun {J A'} hl h => ⟨A' ++ B, ⟨A', B, rfl, h, h2.mono hl⟩, .refl _⟩⟩
 | tail h ih =>
  rintro L ⟨A, B, e, h1, h2⟩
  obtain ⟨C, D, hp, h3, h4⟩ := ih h2
  refine ⟨C, A ++ D, ?_, h3, fun {J A'} hl h => ?_⟩
  ·subst e
   refine (hp.append_left A).trans ?_
   rw [← List.append_assoc, ← List.append_assoc]
   exact List.perm_append_comm.append_right D
  ·obtain ⟨L', h5, h6⟩ := h4 hl h
   refine ⟨A ++ L', ⟨A, L', rfl, h1.mono hl, h5⟩, ?_⟩
   refine (h6.append_left A).trans ?_
   rw [← List.append_assoc, ← List.append_assoc]
   exact List.perm_append_comm.append_right D
section
variable {E : World} {P : Program} {ops : Array Oper} {K : AEnv → OL → Prop} {env : AEnv} {O O' : OL} {rest : List Oper}
variable {d ty : Nat} {pos : String} {af : Array Edge} {x y z : Operand} {t u e : TypeId}
theorem AOps.appendS {ti : TypeInfo} {zv : Value} {k n i : Nat} {cs : List AV} {rows : List (List AV)} {f : Nat → OL} (ht : P.underlying t = some (.slice e)) (hi : P.info? e = some ti) (hz : ti.zero = some zv) (hk : ti.size = k) (hzc : zv.cells.size = k)
  (hx : aev env x = .own i n) (hy : aev env y = .fro k rows) (hO : ∀ j, Swp O i (.grow k e cs) j (.grow k e (cs ++ rows.flatten)) (f j)) (hn : cs.length = n * k) (hk0 : 0 < k) (hc1 : rows.flatten.all AV.cell = true) (hb : (n + rows.length) * ti.bytes ≤ 140737488355328) (hb2 : n + rows.length ≤ 140737488355328)
  (kk : ∀ j, AOps P E ops K rest (aupd env d (.own j (n + rows.length))) (f j)) :
  AOps P E ops K (Oper.mk (some d) (.call { callee := .builtin .append, args := #[x, y], argTypes := #[t, t] }) ty pos af none :: rest) env O := fun I F ρ w h1 h2 => by
 obtain ⟨htop, L, hL, hS⟩ := id h2
 have h3 := h1.ev x
 rw [hx] at h3
 obtain ⟨b, cap, e1, ex⟩ := h3
 have h4 := h1.ev y
 rw [hy] at h4
 obtain ⟨sa, m, sc, vs, ey, hm, hvs, hvc, hsrc⟩ := fro_src h4 hc1
 obtain ⟨j, hj⟩ := h2.name
 obtain ⟨A, B, hp, ⟨b', cap', n', us, e2, hus, huc, hown⟩, hback⟩ := (hO j).rep hL
 simp only at e2
 rw [e1] at e2
 simp only [Option.some.injEq, Prod.mk.injEq] at e2
 obtain ⟨rfl, rfl⟩ := e2
 have hnn : n' = n := by
  have h5 := hown.1
  have h6 := hus.length
  have : n' * k = n * k := by omega
  exact Nat.eq_of_mul_eq_mul_right hk0 this
 subst hnn
 subst hm
 have hS2 : SL I.k (A ++ (B ++ F)) E w := hS.perm (by rw [← List.append_assoc]; exact (hp.append_right F).symm)
 refine Ops.append ht hi hz hk hzc ex ey hS2 hown (hsrc _) hb hb2 fun a' c' A' w' h5 h6 h7 => ?_
 have hb' : ∃ b'', a' = adr b'' := by
  rcases h5.2.2 with ⟨e, _⟩ | ⟨b'', junk, e, _⟩
  ·exact ⟨none, e⟩
  ·exact ⟨some b'', e⟩
 obtain ⟨b'', rfl⟩ := hb'
 obtain ⟨J, ek, hle, e3, htop'⟩ := hj (b'', c')
 obtain ⟨L', h8, h9⟩ := hback hle (A' := A') ⟨b'', c', _, us ++ vs, e3, RepL.mono hle _ _ (hus.append hvs), (by
  intro u hu
  rcases List.mem_append.1 hu with hu | hu
  ·exact huc u hu
  ·exact hvc u hu), h5⟩
 exact yj (fun _ _ => postK.up hle) _ _ _ (kk j J F _ _ ((h1.mono hle).upd d ⟨b'', c', e3, rfl⟩) ⟨htop', L', h8, by rw [ek]; exact h6.perm (by rw [← List.append_assoc]; exact h9.append_right F)⟩)
end
theorem grow_push {α : Type} {enc : α → List AV} {xs ys : List α} {x : α} (h : ys = xs ++ [x]) : (xs.map enc).flatten ++ [enc x].flatten = (ys.map enc).flatten := by subst h; simp
theorem grow_len {α : Type} {enc : α → List AV} {k : Nat} (hk : ∀ x, (enc x).length = k) (xs : List α) : (xs.map enc).flatten.length = xs.length * k := by
 rw [flat_len (k := k) (by simp [hk]), List.length_map]
end Go.Proofs.YthlpjaleclchgaaGreatDoor
namespace Go.Proofs.YthlpjaleclchgaaGreatDoor
open Go.Proofs.Tryz
theorem lit_un {I : G} {x v : Value} (h : RepV I (lit x) v) : v = x := by cases x <;> exact h
theorem lit_uns {I : G} : ∀ {xs vs : List Value}, RepL I (xs.map lit) vs → vs = xs
 | [], _, h => h
 | x :: xs, _, ⟨v, us, e, h1, h2⟩ => by rw [e, lit_un h1, lit_uns h2]
section
variable {E : World} {P : Program} {env : AEnv} {O : OL} {d ty : Nat} {pos : String} {af : Array Edge} {x y : Operand} {t u : TypeId}
end
end Go.Proofs.YthlpjaleclchgaaGreatDoor
namespace Go.Proofs.YthlpjaleclchgaaGreatDoor
open Go.Proofs.Tryz
section
variable {E : World} {P : Program} {ops : Array Oper} {K : AEnv → OL → Prop} {env : AEnv} {O O' : OL} {rest : List Oper}
variable {d ty : Nat} {pos : String} {af : Array Edge} {x y : Operand} {t u e : TypeId}
end
end Go.Proofs.YthlpjaleclchgaaGreatDoor
namespace Go.Proofs.YthlpjaleclchgaaGreatDoor
open Go.Proofs.Tryz
section
variable {E : World} {P : Program} {ops : Array Oper} {K : AEnv → OL → Prop} {env : AEnv} {O O' : OL} {rest : List Oper}
variable {d ty : Nat} {pos : String} {af : Array Edge} {x y : Operand} {t u e : TypeId}
theorem flat_full {k : Nat} {zs : List AV} {xs : List (List AV)} (hk : xs.all (fun x => Nat.beq x.length k) = true) (hz : zs.length = xs.length * k) : fillL (fun i => some (i * k, k)) zs ((xs.zipIdx 0).map fun p => (p.2, p.1)) = some xs.flatten := by
 have := fill_full xs 0 [] zs (fun x hx => Nat.eq_of_beq_eq_true (List.all_eq_true.1 hk x hx)) hz (by simp)
 simpa using this
theorem AOps.buildSliceFF {n k : Nat} {zs : List AV} {rows : List (List AV)} {l : List (Nat × Operand)} (hpl : PlacesS P t e n k zs) (hs : l.all (fun p => (aev env p.2).sto) = true) (hv : l.map (fun p => (p.1, (aev env p.2).cs)) = (rows.zipIdx 0).map fun p => (p.2, p.1))
  (hk : rows.all (fun r => Nat.beq r.length k) = true) (hn : rows.length = n) (hz : zs.length = n * k) (kk : AOps P E ops K rest (aupd env d (.fro k rows)) O) :
  AOps P E ops K (Oper.mk (some d) (.buildSlice t n l.toArray) ty pos af none :: rest) env O :=
 AOps.buildSliceF hpl hs hv (flat_full hk (by rw [hz, hn])) rfl hk hn kk
end
theorem SL.belowE {I : Ghost} {O : List (Nat × Obj)} {E w : World} (hS : SL I O E w) : Go.RowKit.Below E.heap.size E w := by
 have key : ∀ k, k < E.heap.size → w.heap[k]? = E.heap[k]? := fun k hk => by
  have h1 : E.heap[k]? = some E.heap[k] := Array.getElem?_eq_getElem hk
  rw [h1]
  exact hS.pers _ _ (hS.base k _ h1)
 refine ⟨hS.os, hS.tape, hS.output, ?_, key⟩
 rcases Nat.lt_or_ge w.heap.size E.heap.size with h | h
 ·have := key w.heap.size h
  rw [Array.getElem?_eq_none (Nat.le_refl _), Array.getElem?_eq_getElem h] at this
  cases this
 ·exact h
theorem AFun.ofBelow {E : World} {P : Program} {f : FuncId} {fn : Func} {c : Code} {as0 : List AV} {vs : List Value} {r : Value} (hf : P.funcs[f]? = some fn) (hb : fn.body = some c) (hn : fn.name ≠ "runtime.NumGoroutine") (has : as0 = vs.map lit)
  (h : ∀ w, Go.RowKit.Below E.heap.size E w → Calls P f vs.toArray w fun e w' => e = .returned r ∧ Go.RowKit.Below w.heap.size w w') : AFun P E f as0 (lit r) := fun I F w us h1 h2 => by
 subst has
 rw [lit_uns h1]
 obtain ⟨ht, L, hL, hS⟩ := h2
 have hL : L = [] := hL
 subst hL
 refine Fn.ofCalls hf hb hn ?_
 exact (h w hS.belowE).mono fun e w' ⟨he, hw⟩ => ⟨_, he, I, lit r, [], .refl _, lit_rep I r, ⟨ht, [], rfl, hS.below hw⟩, rfl⟩
end Go.Proofs.YthlpjaleclchgaaGreatDoor
namespace Go.Proofs.YthlpjaleclchgaaGreatDoor
open Go.Proofs.Tryz
open Go.Proofs
theorem pl148 : Places prog 148 #[(0, 1), (1, 1), (2, 1)] [.str ⟨#[]⟩, .str ⟨#[]⟩, .str ⟨#[]⟩] := ⟨_, _, underlying148, zeroValue148, fun w => by kernel_rfl, rfl⟩
theorem pl199 : PlacesA prog 199 3 [.str ⟨#[]⟩, .str ⟨#[]⟩, .str ⟨#[]⟩, .str ⟨#[]⟩, .str ⟨#[]⟩, .str ⟨#[]⟩, .str ⟨#[]⟩, .str ⟨#[]⟩, .str ⟨#[]⟩, .str ⟨#[]⟩, .str ⟨#[]⟩, .str ⟨#[]⟩, .str ⟨#[]⟩, .str ⟨#[]⟩, .str ⟨#[]⟩, .str ⟨#[]⟩, .str ⟨#[]⟩, .str ⟨#[]⟩, .str ⟨#[]⟩, .str ⟨#[]⟩, .str ⟨#[]⟩, .str ⟨#[]⟩, .str ⟨#[]⟩, .str ⟨#[]⟩, .str ⟨#[]⟩, .str ⟨#[]⟩, .str ⟨#[]⟩, .str ⟨#[]⟩, .str ⟨#[]⟩, .str ⟨#[]⟩, .str ⟨#[]⟩, .str ⟨#[]⟩, .str ⟨#[]⟩, .str ⟨#[]⟩, .str ⟨#[]⟩, .str ⟨#[]⟩, .str ⟨#[]⟩, .str ⟨#[]⟩, .str ⟨#[]⟩, .str ⟨#[]⟩, .str ⟨#[]⟩, .str ⟨#[]⟩, .str ⟨#[]⟩, .str ⟨#[]⟩, .str ⟨#[]⟩, .str ⟨#[]⟩, .str ⟨#[]⟩, .str ⟨#[]⟩, .str ⟨#[]⟩, .str ⟨#[]⟩, .str ⟨#[]⟩, .str ⟨#[]⟩, .str ⟨#[]⟩, .str ⟨#[]⟩, .str ⟨#[]⟩, .str ⟨#[]⟩, .str ⟨#[]⟩, .str ⟨#[]⟩, .str ⟨#[]⟩, .str ⟨#[]⟩, .str ⟨#[]⟩, .str ⟨#[]⟩, .str ⟨#[]⟩, .str ⟨#[]⟩, .str ⟨#[]⟩, .str ⟨#[]⟩, .str ⟨#[]⟩, .str ⟨#[]⟩, .str ⟨#[]⟩, .str ⟨#[]⟩, .str ⟨#[]⟩, .str ⟨#[]⟩, .str ⟨#[]⟩, .str ⟨#[]⟩, .str ⟨#[]⟩, .str ⟨#[]⟩, .str ⟨#[]⟩, .str ⟨#[]⟩, .str ⟨#[]⟩, .str ⟨#[]⟩, .str ⟨#[]⟩] := ⟨_, _, _, underlying199, zeroValue199, sizeOf148, rfl⟩
variable {E : World}
set_option maxRecDepth 20000
def kindT : List (ByteArray × ByteArray × ByteArray) := [(⟨#[99, 111, 110, 115, 116]⟩, ⟨#[]⟩, ⟨#[105]⟩),
 (⟨#[99, 111, 112, 121]⟩, ⟨#[105]⟩, ⟨#[105]⟩),
 (⟨#[97, 100, 100]⟩, ⟨#[105, 105]⟩, ⟨#[105]⟩),
 (⟨#[115, 117, 98]⟩, ⟨#[105, 105]⟩, ⟨#[105]⟩),
 (⟨#[109, 117, 108]⟩, ⟨#[105, 105]⟩, ⟨#[105]⟩),
 (⟨#[100, 105, 118]⟩, ⟨#[105, 105]⟩, ⟨#[105]⟩),
 (⟨#[114, 101, 109]⟩, ⟨#[105, 105]⟩, ⟨#[105]⟩),
 (⟨#[101, 113]⟩, ⟨#[105, 105]⟩, ⟨#[98]⟩),
 (⟨#[108, 116]⟩, ⟨#[105, 105]⟩, ⟨#[98]⟩),
 (⟨#[108, 101]⟩, ⟨#[105, 105]⟩, ⟨#[98]⟩),
 (⟨#[110, 111, 116]⟩, ⟨#[98]⟩, ⟨#[98]⟩),
 (⟨#[97, 110, 100]⟩, ⟨#[98, 98]⟩, ⟨#[98]⟩),
 (⟨#[108, 101, 110]⟩, ⟨#[97]⟩, ⟨#[105]⟩),
 (⟨#[108, 111, 97, 100]⟩, ⟨#[97, 105]⟩, ⟨#[105]⟩),
 (⟨#[115, 116, 111, 114, 101]⟩, ⟨#[97, 105, 105]⟩, ⟨#[]⟩),
 (⟨#[110, 101, 119]⟩, ⟨#[105]⟩, ⟨#[97]⟩),
 (⟨#[110, 105, 108]⟩, ⟨#[]⟩, ⟨#[97]⟩),
 (⟨#[111, 117, 116]⟩, ⟨#[105]⟩, ⟨#[]⟩),
 (⟨#[99, 104, 107, 105, 100, 120]⟩, ⟨#[97, 105]⟩, ⟨#[]⟩),
 (⟨#[99, 104, 107, 110, 105, 108]⟩, ⟨#[97]⟩, ⟨#[]⟩),
 (⟨#[99, 104, 107, 100, 105, 118]⟩, ⟨#[105]⟩, ⟨#[]⟩),
 (⟨#[99, 104, 107, 97, 100, 100]⟩, ⟨#[105, 105]⟩, ⟨#[]⟩),
 (⟨#[99, 104, 107, 115, 117, 98]⟩, ⟨#[105, 105]⟩, ⟨#[]⟩),
 (⟨#[99, 104, 107, 109, 117, 108]⟩, ⟨#[105, 105]⟩, ⟨#[]⟩),
 (⟨#[99, 104, 107, 108, 101, 110]⟩, ⟨#[105]⟩, ⟨#[]⟩),
 (⟨#[112, 105]⟩, ⟨#[105, 105]⟩, ⟨#[105]⟩),
 (⟨#[112, 105, 108, 101, 110]⟩, ⟨#[105, 97]⟩, ⟨#[105]⟩)]
def kRow (op : Int) : ByteArray × ByteArray × ByteArray := if 0 ≤ op then kindT[op.toNat]?.getD (⟨#[]⟩, ⟨#[]⟩, ⟨#[]⟩) else (⟨#[]⟩, ⟨#[]⟩, ⟨#[]⟩)
def isOp (op : Int) : Bool := decide (0 ≤ op) && decide (op < 27)
def encK (r : ByteArray × ByteArray × ByteArray) : List AV := [.str r.1, .str r.2.1, .str r.2.2]
theorem is_spec (op : Int) : AFun prog E 119 [.int .i64 op] (.bool (isOp op)) := by
 refine ACall.intro func119 rfl (by decide) rfl ?_
 refine zg ?_
 refine zu rfl ?_
 refine z6 (yb (v := .bool _) rfl) ?_
 refine z7 ?_
 refine zg ?_
 refine zu rfl ?_
 refine z6 (yn (v := .int _ _) rfl) ?_
 refine z6 (Gv.geq rfl rfl) ?_
 refine z6 (yn (v := .bool _) rfl) ?_
 refine y7 (s := 5) rfl (fun c1=>?_) (fun c1=>?_)
 ·refine za rfl rfl c1 ?_
  refine z6 (yn (v := .int _ _) rfl) ?_
  refine za rfl rfl c1 ?_
  refine z6 (y9 rfl rfl) ?_
  refine z6 (Gv.pickT (v := .bool _) rfl c1 rfl) ?_
  refine z6 (yb (v := .bool _) rfl) ?_
  refine z7 ?_
  refine zf ?_
  repeat (first | refine aseqQ_ret ?_ | refine ablockQ_ret ?_)
  refine afin.t1 (x := .bool _) rfl ?_
  simp_all [isOp] <;> omega
 ·refine z8 rfl rfl c1 ?_
  refine z8 rfl rfl c1 ?_
  refine z6 (Gv.pickF (v := .bool _) rfl c1 rfl) ?_
  refine z6 (yb (v := .bool _) rfl) ?_
  refine z7 ?_
  refine zf ?_
  repeat (first | refine aseqQ_ret ?_ | refine ablockQ_ret ?_)
  refine afin.t1 (x := .bool _) rfl ?_
  simp_all [isOp] <;> omega
set_option maxHeartbeats 4000000 in
theorem kinds_spec : AFun prog E 120 [] (.agg (kindT.flatMap encK)) := by
 refine ACall.intro func120 rfl (by decide) rfl ?_
 refine zg ?_
 refine zu rfl ?_
 refine AOps.alloc (cs := [.str ⟨#[]⟩, .str ⟨#[]⟩, .str ⟨#[]⟩, .str ⟨#[]⟩, .str ⟨#[]⟩, .str ⟨#[]⟩, .str ⟨#[]⟩, .str ⟨#[]⟩, .str ⟨#[]⟩, .str ⟨#[]⟩, .str ⟨#[]⟩, .str ⟨#[]⟩, .str ⟨#[]⟩, .str ⟨#[]⟩, .str ⟨#[]⟩, .str ⟨#[]⟩, .str ⟨#[]⟩, .str ⟨#[]⟩, .str ⟨#[]⟩, .str ⟨#[]⟩, .str ⟨#[]⟩, .str ⟨#[]⟩, .str ⟨#[]⟩, .str ⟨#[]⟩, .str ⟨#[]⟩, .str ⟨#[]⟩, .str ⟨#[]⟩, .str ⟨#[]⟩, .str ⟨#[]⟩, .str ⟨#[]⟩, .str ⟨#[]⟩, .str ⟨#[]⟩, .str ⟨#[]⟩, .str ⟨#[]⟩, .str ⟨#[]⟩, .str ⟨#[]⟩, .str ⟨#[]⟩, .str ⟨#[]⟩, .str ⟨#[]⟩, .str ⟨#[]⟩, .str ⟨#[]⟩, .str ⟨#[]⟩, .str ⟨#[]⟩, .str ⟨#[]⟩, .str ⟨#[]⟩, .str ⟨#[]⟩, .str ⟨#[]⟩, .str ⟨#[]⟩, .str ⟨#[]⟩, .str ⟨#[]⟩, .str ⟨#[]⟩, .str ⟨#[]⟩, .str ⟨#[]⟩, .str ⟨#[]⟩, .str ⟨#[]⟩, .str ⟨#[]⟩, .str ⟨#[]⟩, .str ⟨#[]⟩, .str ⟨#[]⟩, .str ⟨#[]⟩, .str ⟨#[]⟩, .str ⟨#[]⟩, .str ⟨#[]⟩, .str ⟨#[]⟩, .str ⟨#[]⟩, .str ⟨#[]⟩, .str ⟨#[]⟩, .str ⟨#[]⟩, .str ⟨#[]⟩, .str ⟨#[]⟩, .str ⟨#[]⟩, .str ⟨#[]⟩, .str ⟨#[]⟩, .str ⟨#[]⟩, .str ⟨#[]⟩, .str ⟨#[]⟩, .str ⟨#[]⟩, .str ⟨#[]⟩, .str ⟨#[]⟩, .str ⟨#[]⟩, .str ⟨#[]⟩]) zeroValue199 rfl rfl ?_
 intro i0
 refine z7 ?_
 refine zg ?_
 refine zu rfl ?_
 refine z6 (Gv.build (cps := [(0, [_]), (1, [_]), (2, [_])]) (rs := [_, _, _]) pl148 rfl rfl rfl) ?_
 refine z6 (Gv.build (cps := [(0, [_]), (1, [_]), (2, [_])]) (rs := [_, _, _]) pl148 rfl rfl rfl) ?_
 refine z6 (Gv.build (cps := [(0, [_]), (1, [_]), (2, [_])]) (rs := [_, _, _]) pl148 rfl rfl rfl) ?_
 refine z6 (Gv.build (cps := [(0, [_]), (1, [_]), (2, [_])]) (rs := [_, _, _]) pl148 rfl rfl rfl) ?_
 refine z6 (Gv.build (cps := [(0, [_]), (1, [_]), (2, [_])]) (rs := [_, _, _]) pl148 rfl rfl rfl) ?_
 refine z6 (Gv.build (cps := [(0, [_]), (1, [_]), (2, [_])]) (rs := [_, _, _]) pl148 rfl rfl rfl) ?_
 refine z6 (Gv.build (cps := [(0, [_]), (1, [_]), (2, [_])]) (rs := [_, _, _]) pl148 rfl rfl rfl) ?_
 refine z6 (Gv.build (cps := [(0, [_]), (1, [_]), (2, [_])]) (rs := [_, _, _]) pl148 rfl rfl rfl) ?_
 refine z6 (Gv.build (cps := [(0, [_]), (1, [_]), (2, [_])]) (rs := [_, _, _]) pl148 rfl rfl rfl) ?_
 refine z6 (Gv.build (cps := [(0, [_]), (1, [_]), (2, [_])]) (rs := [_, _, _]) pl148 rfl rfl rfl) ?_
 refine z6 (Gv.build (cps := [(0, [_]), (1, [_]), (2, [_])]) (rs := [_, _, _]) pl148 rfl rfl rfl) ?_
 refine z6 (Gv.build (cps := [(0, [_]), (1, [_]), (2, [_])]) (rs := [_, _, _]) pl148 rfl rfl rfl) ?_
 refine z6 (Gv.build (cps := [(0, [_]), (1, [_]), (2, [_])]) (rs := [_, _, _]) pl148 rfl rfl rfl) ?_
 refine z6 (Gv.build (cps := [(0, [_]), (1, [_]), (2, [_])]) (rs := [_, _, _]) pl148 rfl rfl rfl) ?_
 refine z6 (Gv.build (cps := [(0, [_]), (1, [_]), (2, [_])]) (rs := [_, _, _]) pl148 rfl rfl rfl) ?_
 refine z6 (Gv.build (cps := [(0, [_]), (1, [_]), (2, [_])]) (rs := [_, _, _]) pl148 rfl rfl rfl) ?_
 refine z6 (Gv.build (cps := [(0, [_]), (1, [_]), (2, [_])]) (rs := [_, _, _]) pl148 rfl rfl rfl) ?_
 refine z6 (Gv.build (cps := [(0, [_]), (1, [_]), (2, [_])]) (rs := [_, _, _]) pl148 rfl rfl rfl) ?_
 refine z6 (Gv.build (cps := [(0, [_]), (1, [_]), (2, [_])]) (rs := [_, _, _]) pl148 rfl rfl rfl) ?_
 refine z6 (Gv.build (cps := [(0, [_]), (1, [_]), (2, [_])]) (rs := [_, _, _]) pl148 rfl rfl rfl) ?_
 refine z6 (Gv.build (cps := [(0, [_]), (1, [_]), (2, [_])]) (rs := [_, _, _]) pl148 rfl rfl rfl) ?_
 refine z6 (Gv.build (cps := [(0, [_]), (1, [_]), (2, [_])]) (rs := [_, _, _]) pl148 rfl rfl rfl) ?_
 refine z6 (Gv.build (cps := [(0, [_]), (1, [_]), (2, [_])]) (rs := [_, _, _]) pl148 rfl rfl rfl) ?_
 refine z6 (Gv.build (cps := [(0, [_]), (1, [_]), (2, [_])]) (rs := [_, _, _]) pl148 rfl rfl rfl) ?_
 refine z6 (Gv.build (cps := [(0, [_]), (1, [_]), (2, [_])]) (rs := [_, _, _]) pl148 rfl rfl rfl) ?_
 refine z6 (Gv.build (cps := [(0, [_]), (1, [_]), (2, [_])]) (rs := [_, _, _]) pl148 rfl rfl rfl) ?_
 refine z6 (Gv.build (cps := [(0, [_]), (1, [_]), (2, [_])]) (rs := [_, _, _]) pl148 rfl rfl rfl) ?_
 refine z6 (Gv.buildAF (xs := [[_, _, _], [_, _, _], [_, _, _], [_, _, _], [_, _, _], [_, _, _], [_, _, _], [_, _, _], [_, _, _], [_, _, _], [_, _, _], [_, _, _], [_, _, _], [_, _, _], [_, _, _], [_, _, _], [_, _, _], [_, _, _], [_, _, _], [_, _, _], [_, _, _], [_, _, _], [_, _, _], [_, _, _], [_, _, _], [_, _, _], [_, _, _]]) pl199 rfl rfl rfl rfl) ?_
 refine AOps.storeW sizeOf199 rfl rfl rfl rfl rfl rfl .head rfl ?_
 refine z7 ?_
 refine zf ?_
 repeat (first | refine aseqQ_ret ?_ | refine ablockQ_ret ?_)
 refine afin.c1 rfl ⟨_, .head⟩ isAgg199 sizeOf199 rfl ?_
 rfl
theorem kRow_out {op : Int} (h : isOp op = false) : kRow op = (⟨#[]⟩, ⟨#[]⟩, ⟨#[]⟩) := by
 unfold isOp at h
 unfold kRow
 split
 ·rename_i h0
  have : ¬ op < 27 := by simpa [h0] using h
  rw [List.getElem?_eq_none (by show 27 ≤ _; omega)]; rfl
 ·rfl
theorem kRow_at {op : Int} (h : isOp op = true) : ∃ j : Nat, op = (j : Int) ∧ j < 27 ∧ ((kindT.flatMap encK).drop (j * 3)).take 3 = encK (kRow op) := by
 unfold isOp at h
 simp at h
 obtain ⟨j, rfl⟩ : ∃ j : Nat, op = j := ⟨op.toNat, by omega⟩
 have hj : j < 27 := by omega
 refine ⟨j, rfl, hj, flat_at (enc := encK) (k := 3) (fun _ => rfl) _ _ ?_⟩
 unfold kRow
 rw [if_pos h.1, Int.toNat_natCast, List.getElem?_eq_getElem (show j < kindT.length from hj)]; rfl
theorem of_spec (op : Int) : AFun prog E 73 [.int .i64 op] (.agg (encK (kRow op))) := by
 refine ACall.intro func73 rfl (by decide) rfl ?_
 refine zg ?_
 refine zu rfl ?_
 refine AOps.alloc (cs := [.str ⟨#[]⟩, .str ⟨#[]⟩, .str ⟨#[]⟩]) zeroValue148 rfl rfl ?_
 intro i2
 refine z7 ?_
 refine zg ?_
 refine zg ?_
 refine zu rfl ?_
 refine z6 (yn (v := .int _ _) rfl) ?_
 refine AOps.callP (is_spec _) rfl ?_
 refine z6 (ym rfl) ?_
 refine z7 ?_
 refine AWP.cond rfl (fun c=>?_) (fun c=>?_)
 ·have c : isOp op = false := by simpa using c
  rw [kRow_out c]
  refine zg ?_
  refine zu rfl ?_
  refine z6 (Gv.build (cps := []) (rs := [.str ⟨#[]⟩, .str ⟨#[]⟩, .str ⟨#[]⟩]) pl148 rfl rfl rfl) ?_
  refine AOps.storeW sizeOf148 rfl rfl rfl rfl rfl rfl .head rfl ?_
  refine z7 ?_
  refine zf ?_
  repeat (first | refine aseqQ_ret ?_ | refine ablockQ_ret ?_)
  refine afin.c1 rfl ⟨_, .head⟩ isAgg148 sizeOf148 rfl ?_
  rfl
 ·have c : isOp op = true := by simpa using c
  obtain ⟨j, hj1, hj2, hj3⟩ := kRow_at c
  refine zz ?_
  refine zg ?_
  refine zu rfl ?_
  refine AOps.callP (kinds_spec) rfl ?_
  refine z6 (yn (v := .int _ _) rfl) ?_
  refine z6 (Gv.indexA underlying199 isAgg148 sizeOf148 rfl rfl hj1 hj2 hj3) ?_
  refine AOps.storeW sizeOf148 rfl rfl rfl rfl rfl rfl .head rfl ?_
  refine z7 ?_
  refine zf ?_
  repeat (first | refine aseqQ_ret ?_ | refine ablockQ_ret ?_)
  refine afin.c1 rfl ⟨_, .head⟩ isAgg148 sizeOf148 rfl ?_
  rfl
def typeOf (c : Int) : Int := if c = 98 then 1 else if c = 97 then 2 else 0
theorem typed_spec (c : Int) : AFun prog E 74 [.int .i32 c] (.int .i64 (typeOf c)) := by
 refine ACall.intro func74 rfl (by decide) rfl ?_
 refine zg ?_
 refine zu rfl ?_
 refine z6 (yb (v := .int _ _) rfl) ?_
 refine z7 ?_
 refine zg ?_
 refine zg ?_
 refine zu rfl ?_
 refine z6 (yn (v := .int _ _) rfl) ?_
 refine z7 ?_
 refine yf ?_
 refine zg ?_
 refine zu rfl ?_
 refine z6 (zq rfl rfl) ?_
 refine z6 (yb (v := .bool _) rfl) ?_
 refine z7 ?_
 refine AWP.cond rfl (fun c3=>?_) (fun c3=>?_)
 ·refine zg ?_
  refine zu rfl ?_
  refine z6 (yb (v := .int _ _) rfl) ?_
  refine z7 ?_
  refine zf ?_
  repeat (first | refine aseqQ_ret ?_ | refine ablockQ_ret ?_)
  refine afin.t1 (x := .int _ _) rfl ?_
  simp_all [typeOf]
 ·refine zg ?_
  refine zu rfl ?_
  refine z6 (zq rfl rfl) ?_
  refine z6 (yb (v := .bool _) rfl) ?_
  refine z7 ?_
  refine AWP.cond rfl (fun c4=>?_) (fun c4=>?_)
  ·refine zg ?_
   refine zu rfl ?_
   refine z6 (yb (v := .int _ _) rfl) ?_
   refine z7 ?_
   refine zf ?_
   repeat (first | refine aseqQ_ret ?_ | refine ablockQ_ret ?_)
   refine afin.t1 (x := .int _ _) rfl ?_
   simp_all [typeOf]
  ·refine zz ?_
   refine zg ?_
   refine zu rfl ?_
   refine z6 (yb (v := .int _ _) rfl) ?_
   refine z7 ?_
   refine zf ?_
   repeat (first | refine aseqQ_ret ?_ | refine ablockQ_ret ?_)
   refine afin.t1 (x := .int _ _) rfl ?_
   simp_all [typeOf]
theorem kT_ascii : ∀ r ∈ kindT, (∀ b ∈ r.2.1.data.toList, b < 128) ∧ (∀ b ∈ r.2.2.data.toList, b < 128) := by decide
theorem kRow_mem (op : Int) : kRow op = (⟨#[]⟩, ⟨#[]⟩, ⟨#[]⟩) ∨ kRow op ∈ kindT := by
 unfold kRow
 split
 ·cases h : kindT[op.toNat]? with
  | none => exact .inl rfl
  | some r => exact .inr (List.mem_of_getElem? h)
 ·exact .inl rfl
theorem kRow_ascii (op : Int) : (∀ b ∈ (kRow op).2.1.data.toList, b < 128) ∧ (∀ b ∈ (kRow op).2.2.data.toList, b < 128) := by
 rcases kRow_mem op with h | h
 ·rw [h]; simp
 ·exact kT_ascii _ h
def takesL (op : Int) : List Int := (kRow op).2.1.data.toList.map fun b => typeOf b.toNat
end Go.Proofs.YthlpjaleclchgaaGreatDoor
namespace Go.Proofs.YthlpjaleclchgaaGreatDoor
open Go.Proofs.Tryz
open Go.Proofs
theorem ps96_1 : PlacesS prog 96 84 1 1 [.int .i64 0] := ⟨_, underlying96, sizeOf84, zeroValue84, by decide, by decide, by kernel_rfl⟩
variable {E : World}
set_option maxRecDepth 20000
structure PVar where
 name : ByteArray
 ty : Int
deriving DecidableEq
structure PPhi where
 dst : Int
 args : List Int
 from_ : List Int
deriving DecidableEq
structure PInst where
 op : Int
 dst : Int
 args : List Int
 num : Int
deriving DecidableEq
structure PTerm where
 kind : Int
 var : Int
 to0 : Int
 to1 : Int
deriving DecidableEq
structure PBlock where
 name : ByteArray
 phis : List PPhi
 insts : List PInst
 term : PTerm
deriving DecidableEq
structure PFunc where
 vars : List PVar
 params : List Int
 blocks : List PBlock
deriving DecidableEq
def encI (x : Int) : List AV := [.int .i64 x]
def encVar (v : PVar) : List AV := [.str v.name, .int .i64 v.ty]
def encPhi (p : PPhi) : List AV := [.int .i64 p.dst, .fro 1 (p.args.map encI), .fro 1 (p.from_.map encI)]
def encInst (x : PInst) : List AV := [.int .i64 x.op, .int .i64 x.dst, .fro 1 (x.args.map encI), .int .i64 x.num]
def encBlk (b : PBlock) : List AV := [.str b.name, .fro 3 (b.phis.map encPhi), .fro 4 (b.insts.map encInst), .int .i64 b.term.kind, .int .i64 b.term.var, .int .i64 b.term.to0, .int .i64 b.term.to1]
theorem takes_spec (op : Int) : AFun prog E 38 [.int .i64 op] (.fro 1 ((takesL op).map encI)) := by
 obtain ⟨hasc, _⟩ := kRow_ascii op
 have hl : (takesL op).length = (kRow op).2.1.size := by unfold takesL; rw [List.length_map]; exact Array.length_toList
 have hlen : (takesL op).length ≤ 3 := by
  rcases kRow_mem op with h | h
  ·unfold takesL; rw [h]; decide
  ·have : ∀ r ∈ kindT, r.2.1.data.toList.length ≤ 3 := by decide
   have := this _ h
   unfold takesL; simpa using this
 refine ACall.intro func38 rfl (by decide) rfl ?_
 refine zg ?_
 refine zu rfl ?_
 refine z6 (yb (v := .raw _) rfl) ?_
 refine z7 ?_
 refine zg ?_
 refine zu rfl ?_
 refine z6 (yb (v := .raw _) rfl) ?_
 refine z7 ?_
 refine adopt_wp (t := 3) (k := 1) (T := 84) rfl ?_
 intro i3
 refine zg ?_
 refine zg ?_
 refine zu rfl ?_
 refine z6 (yn (v := .int _ _) rfl) ?_
 refine AOps.callP (of_spec _) rfl ?_
 refine z6 (Gv.field1 (v := .str _) underlying148 rfl isAgg9 rfl rfl) ?_
 refine AOps.rangeT underlying9 rfl ?_
 intro i9
 refine z7 ?_
 refine yf ?_
 refine AWP.loop (γ := Nat × Nat) [9] (fun g => [(3, .own g.2 g.1)]) (fun g => [(i9, .iter (kRow op).2.1 g.1), (g.2, .grow 1 84 (((takesL op).take g.1).map encI).flatten)]) (fun g => g.1 ≤ (takesL op).length) (fun g => (takesL op).length - g.1) (0, i3) ⟨rfl, trivial⟩ ⟨_, (.refl _), rfl⟩ (Nat.zero_le _) ?_
 rintro ⟨p, i⟩ hp
 try dsimp only at *
 try simp only at hp
 by_cases hlt : p < (takesL op).length
 ·have hb : p < (kRow op).2.1.data.toList.length := by rw [hl] at hlt; exact hlt
  have hg : (kRow op).2.1.data[p]? = some (kRow op).2.1.data.toList[p] := by rw [Array.getElem_toList]; exact Array.getElem?_eq_getElem hb
  refine zg ?_
  refine zu rfl ?_
  refine AOps.nextA rfl hg (hasc _ (List.getElem_mem hb)) .head ?_
  refine z6 (Gv.extract (v := .bool _) rfl rfl) ?_
  refine z7 ?_
  refine zg ?_
  refine ya rfl rfl ?_
  have ht : (takesL op).take (p + 1) = (takesL op).take p ++ [typeOf ((kRow op).2.1.data.toList[p]).toNat] := by
   rw [List.take_succ_eq_append_getElem hlt]
   have : (takesL op)[p] = typeOf ((kRow op).2.1.data.toList[p]).toNat := List.getElem_map _
   rw [this]
  refine zz ?_
  refine yf ?_
  refine zg ?_
  refine zu rfl ?_
  refine z6 (Gv.extract (v := .int _ _) rfl rfl) ?_
  refine z6 (yb (v := .int _ _) rfl) ?_
  refine z7 ?_
  refine zu rfl ?_
  refine z6 (yn (v := .own _ _) rfl) ?_
  refine z6 (yn (v := .int _ _) rfl) ?_
  refine AOps.callP (typed_spec _) rfl ?_
  refine AOps.buildSliceFF (rows := [[_]]) ps96_1 rfl rfl rfl rfl rfl ?_
  refine AOps.appendS (k := 1) underlying96 type84 rfl rfl rfl rfl rfl (fun _ => (.tail .head)) (by rw [grow_len (k := 1) (fun _ => rfl), List.length_take, Nat.min_eq_left hp]) (by decide) rfl (by show (_ + _) * 8 ≤ _; simp <;> omega) (by simp <;> omega) ?_
  intro i17
  refine z6 (yb (v := .own _ _) rfl) ?_
  refine z7 ?_
  exact ⟨(p + 1, i17), ⟨rfl, trivial⟩, ⟨rfl, trivial⟩, ⟨_, (.refl _), by rw [← grow_push ht]; rfl⟩, hlt, by simp only; omega⟩
 ·refine zg ?_
  refine zu rfl ?_
  refine AOps.nextTover rfl .head (by rw [← hl]; exact hlt) ?_
  refine z6 (Gv.extract (v := .bool _) rfl rfl) ?_
  refine z7 ?_
  refine zg ?_
  refine yq rfl rfl ?_
  have hkn : p = (takesL op).length := by omega
  subst hkn
  rw [List.take_length]
  refine AWP.exit ?_
  refine zg ?_
  refine zu rfl ?_
  refine z6 (yn (v := .own _ _) rfl) ?_
  refine z6 (yb (v := .own _ _) rfl) ?_
  refine z7 ?_
  refine zf ?_
  repeat (first | refine aseqQ_ret ?_ | refine ablockQ_ret ?_)
  refine GStep.fin (GStep.know (t := 2) (rows := (takesL op).map encI) rfl (.tail .head) (by first | (intro r hr; obtain ⟨x, _, rfl⟩ := List.mem_map.1 hr; rfl) | simp [encI, encVar, encPhi, encInst, encBlk]) (by decide) (by simp)) ?_
  refine afin.t1 (x := .fro _ _) rfl ?_
  rfl
def hasV (f : PFunc) (v : Int) : Bool := decide (0 ≤ v) && decide (v < f.vars.length)
def hasB (f : PFunc) (b : Int) : Bool := decide (0 ≤ b) && decide (b < f.blocks.length)
end Go.Proofs.YthlpjaleclchgaaGreatDoor
namespace Go.Proofs.YthlpjaleclchgaaGreatDoor
open Go.Proofs.Tryz
open Go.Proofs
variable {E : World}
set_option maxRecDepth 20000
theorem jb {x y : Bool} (h : x = y) : AV.bool x = AV.bool y := congrArg AV.bool h
end Go.Proofs.YthlpjaleclchgaaGreatDoor
namespace Go.Proofs.YthlpjaleclchgaaGreatDoor
open Go.Proofs.Tryz
section
variable {E : World} {P : Program} {env : AEnv} {O : OL} {d ty : Nat} {pos : String} {af : Array Edge} {x y : Operand} {t u e : TypeId}
theorem Gv.quo {k : IntKind} {a b : Int} (hx : aev env x = .int k a) (hy : aev env y = .int k b) (hb : b ≠ 0) : Gv P env O (Oper.mk (some d) (.binOp .quo t x y u) ty pos af none) (.int k (k.wrap (a.tdiv b))) := Gv.ofEv fun I ρ h => ⟨_, rfl, fun w => by
 rw [run_bin_int (evI h hx) (evI h hy) (by decide) (by decide)]; simp [binOp, Op.intDiv, hb]⟩
theorem Gv.neg {k : IntKind} {a : Int} (hx : aev env x = .int k a) : Gv P env O (Oper.mk (some d) (.unOp .neg t x) ty pos af none) (.int k (k.wrap (0 - a))) := Gv.ofEv fun I ρ h => ⟨_, rfl, fun w => by
 simp [execOp, evI h hx, Op.unary, Op.intArith]⟩
theorem Gv.conv {k k' : IntKind} {a : Int} {ds : TypeDesc} {src dst : TypeId} (hs : P.underlying src = some ds) (hd : P.underlying dst = some (.int k')) (hx : aev env x = .int k a) : Gv P env O (Oper.mk (some d) (.convert src dst x) ty pos af none) (.int k' (k'.wrap a)) := Gv.ofEv fun I ρ h => ⟨_, rfl, fun w => by
 simp only [execOp, evI h hx]
 cases ds <;> simp [convert, run_underlying hs, run_underlying hd, Conv.intToInt]⟩
end
end Go.Proofs.YthlpjaleclchgaaGreatDoor
namespace Go.Proofs.YthlpjaleclchgaaGreatDoor
open Go.Proofs.Tryz
section
variable {E : World} {P : Program} {n : Nat} {l : List Oper} {W : Nat → Bool} {Q : AEnv → OL → Prop} {fuel : Nat} {listed : Array Bool} {env : AEnv} {O Os Om : OL}
theorem AAny.two {i j : Nat} {o o' : Oper} (hi : l[i]? = some o) (hj : l[j]? = some o') (hr : Region.ready .any l.toArray listed = [i, j])
  (h : AOps P E l.toArray (fun env' Om' => AAny P E l W Q fuel (listed.setIfInBounds i true) env' Os Om') [o] env Om)
  (h' : AOps P E l.toArray (fun env' Om' => AAny P E l W Q fuel (listed.setIfInBounds j true) env' Os Om') [o'] env Om) : AAny P E l W Q (fuel + 1) listed env Os Om := fun I F ρ w Ls h1 hLs h2 => by
 have key : ∀ k ok, AOps P E l.toArray (fun env' Om' => AAny P E l W Q fuel (listed.setIfInBounds k true) env' Os Om') [ok] env Om →
   Ops P l.toArray (fun ρ' w' => (stays I.k [] E w' ∧ (dirty W (listed.setIfInBounds k true) ∨ stays I.k Ls E w')) ∧ AnyV P l.toArray (stays I.k [] E) (stays I.k Ls E) W (postK I F E Q) fuel (listed.setIfInBounds k true) ρ' w') [ok] ρ w := fun k ok h =>
  yj (fun ρ' w' ⟨J, env', Om', a, b, c, d⟩ => by
   have hst : stays I.k Ls E w' := by
    obtain ⟨J', L', h3, h4, h5⟩ := c.here
    exact ⟨J', L', a.k.trans h3, h4, h5⟩
   refine ⟨⟨hst.less, .inr hst⟩, AnyV.mono ?_ ?_ (fun _ _ => postK.up a) _ _ _ _ (d J F ρ' w' Ls b (hLs.mono a) c)⟩
   ·rintro w ⟨J', L', h3, h4⟩; exact ⟨J', L', a.k.trans h3, h4⟩
   ·rintro w ⟨J', L', h3, h4⟩; exact ⟨J', L', a.k.trans h3, h4⟩) _ _ _ (h I (Ls ++ F) ρ w h1 h2)
 refine ⟨fun h0 => (by rw [hr] at h0; cases h0), fun k hk o2 ho2 => ?_⟩
 rw [hr] at hk
 simp only [List.mem_cons, List.not_mem_nil, or_false] at hk
 rw [List.getElem?_toArray] at ho2
 rcases hk with rfl | rfl
 ·rw [hi] at ho2; cases ho2; exact key _ _ h
 ·rw [hj] at ho2; cases ho2; exact key _ _ h'
end
end Go.Proofs.YthlpjaleclchgaaGreatDoor
namespace Go.Proofs.YthlpjaleclchgaaGreatDoor
open Go.Proofs.Tryz
section
variable {E : World} {P : Program} {n : Nat} {l : List Oper} {W : Nat → Bool} {Q : AEnv → OL → Prop} {fuel : Nat} {listed : Array Bool} {env : AEnv} {O Os Om : OL}
theorem AAny.three {i j m : Nat} {o o' o'' : Oper} (hi : l[i]? = some o) (hj : l[j]? = some o') (hm : l[m]? = some o'') (hr : Region.ready .any l.toArray listed = [i, j, m])
  (h : AOps P E l.toArray (fun env' Om' => AAny P E l W Q fuel (listed.setIfInBounds i true) env' Os Om') [o] env Om)
  (h' : AOps P E l.toArray (fun env' Om' => AAny P E l W Q fuel (listed.setIfInBounds j true) env' Os Om') [o'] env Om)
  (h'' : AOps P E l.toArray (fun env' Om' => AAny P E l W Q fuel (listed.setIfInBounds m true) env' Os Om') [o''] env Om) : AAny P E l W Q (fuel + 1) listed env Os Om := fun I F ρ w Ls h1 hLs h2 => by
 have key : ∀ k ok, AOps P E l.toArray (fun env' Om' => AAny P E l W Q fuel (listed.setIfInBounds k true) env' Os Om') [ok] env Om →
   Ops P l.toArray (fun ρ' w' => (stays I.k [] E w' ∧ (dirty W (listed.setIfInBounds k true) ∨ stays I.k Ls E w')) ∧ AnyV P l.toArray (stays I.k [] E) (stays I.k Ls E) W (postK I F E Q) fuel (listed.setIfInBounds k true) ρ' w') [ok] ρ w := fun k ok h =>
  yj (fun ρ' w' ⟨J, env', Om', a, b, c, d⟩ => by
   have hst : stays I.k Ls E w' := by
    obtain ⟨J', L', h3, h4, h5⟩ := c.here
    exact ⟨J', L', a.k.trans h3, h4, h5⟩
   refine ⟨⟨hst.less, .inr hst⟩, AnyV.mono ?_ ?_ (fun _ _ => postK.up a) _ _ _ _ (d J F ρ' w' Ls b (hLs.mono a) c)⟩
   ·rintro w ⟨J', L', h3, h4⟩; exact ⟨J', L', a.k.trans h3, h4⟩
   ·rintro w ⟨J', L', h3, h4⟩; exact ⟨J', L', a.k.trans h3, h4⟩) _ _ _ (h I (Ls ++ F) ρ w h1 h2)
 refine ⟨fun h0 => (by rw [hr] at h0; cases h0), fun k hk o2 ho2 => ?_⟩
 rw [hr] at hk
 simp only [List.mem_cons, List.not_mem_nil, or_false] at hk
 rw [List.getElem?_toArray] at ho2
 rcases hk with rfl | rfl | rfl
 ·rw [hi] at ho2; cases ho2; exact key _ _ h
 ·rw [hj] at ho2; cases ho2; exact key _ _ h'
 ·rw [hm] at ho2; cases ho2; exact key _ _ h''
end
end Go.Proofs.YthlpjaleclchgaaGreatDoor
namespace Go.Proofs.YthlpjaleclchgaaGreatDoor
open Go.Proofs.Tryz
theorem Pick.perm {O O' : OL} {i : Nat} {o : AObj} (h : Pick O i o O') : O.Perm ((i, o) :: O') := by
 induction h with
 | head => exact .refl _
 | tail _ ih => exact (ih.cons _).trans (.swap _ _ _)
section
variable {E : World} {P : Program} {f : FuncId} {as0 : List AV} {O : OL}
end
end Go.Proofs.YthlpjaleclchgaaGreatDoor
namespace Go.Proofs.YthlpjaleclchgaaGreatDoor
open Go.Proofs.Tryz
open Go.ChangeShapes Go.WideShapes Go.ChangeAt Go.RowKit Go.Deep
def full (W : World) : Ghost := fun b => W.heap[b]?
theorem full_sl (W : World) : SL (full W) [] W W := ⟨rfl, rfl, rfl, fun _ _ h => h, by simp, by simp, by simp, fun _ _ h => h, (fun _ _ h h2 => by rw [show W.heap[_]? = some _ from h] at h2; cases h2), by simp⟩
def I0 (W : World) : G := ⟨full W, fun _ => none⟩
theorem cell_known {W : World} {p : Addr} {v : Value} (h : W.cell? p = some v) : p = ⟨p.block, p.off, none⟩ ∧ KAt (full W) p.block p.off v := by
 unfold World.cell? at h
 split at h
 ·rename_i c t f hb
  split at h
  ·cases h
  ·rename_i hs
   have : p.spot = none := by simpa using hs
   obtain ⟨b, o, s⟩ := p
   simp only at this
   subst this
   exact ⟨rfl, ⟨c, t, f, hb, h⟩⟩
 ·cases h
def Dec (P : Program) (W : World) (T : TypeId) {α : Type} (enc : α → List AV) (ok : α → Prop) : Prop :=
 ∀ {H : Type} (e : TypeId × Value → H) (held : Bool) (fuel : Nat) (cs : List Value) (x : DataW H × List MemPlace), DataW.trod e P W 0 (fun _ => true) held fuel T cs = some x → ∃ a, ok a ∧ RepL (I0 W) (enc a) cs
section
variable {P : Program} {W : World} {T e : TypeId}
theorem Dec.int {k : IntKind} (hu : P.underlying T = some (.int k)) : Dec P W T (fun x : Int => [.int k x]) (fun x => (Lit.int k x).wf = true) := fun _ _ _ _ _ h => by
 obtain ⟨n, rfl, _, hw⟩ := DataW.trod_int hu h
 exact ⟨n, hw, _, _, rfl, rfl, rfl⟩
theorem Dec.bool (hu : P.underlying T = some .bool) : Dec P W T (fun x : Bool => [.bool x]) (fun _ => True) := fun _ _ _ _ _ h => by
 obtain ⟨n, rfl, _⟩ := DataW.trod_bool hu h
 exact ⟨n, trivial, _, _, rfl, rfl, rfl⟩
theorem Dec.slice {α : Type} {enc : α → List AV} {ok : α → Prop} {k : Nat} (ht : P.underlying T = some (.slice e)) (he : Dec P W e enc ok) (hk : P.cellsOf e = k) (hk0 : 0 < k) :
  Dec P W T (fun xs : List α => [.fro k (xs.map enc)]) (fun xs => (∀ x ∈ xs, ok x) ∧ xs.length ≤ maxLen) := fun en held fuel cs x h => by
 rcases open_slice ht h with ⟨rfl, _⟩ | ⟨a, len, cap, m, n, D, Pl, rfl, _, hl, hc, hm, _, hr⟩
 ·exact ⟨[], ⟨by simp, Nat.zero_le _⟩, _, _, rfl, ⟨none, 0, 0, rfl, rfl, Nat.le_refl _, fun _ => rfl, trivial⟩, rfl⟩
 ·simp only [if_true] at hm
  have each : ∀ i, i < len → ∃ y : α, ok y ∧ ∃ vs : List Value, vs.length = k ∧ RepL (I0 W) (enc y) vs ∧ ∀ j (u : Value), vs[j]? = some u → W.cell? (a.add (i * k + j)) = some u := by
   intro i hi
   obtain ⟨cs, h1, h2⟩ := hr i (by omega)
   rw [hk] at h1
   obtain ⟨_, hcl, hat⟩ := World.cells?_some h1
   obtain ⟨y, hy, hrep⟩ := he en held n cs _ h2
   refine ⟨y, hy, cs, hcl, hrep, fun j u hu => ?_⟩
   have hj : j < k := by have := (List.getElem?_eq_some_iff.1 hu).1; omega
   have := hat j hj
   rw [Go.Deep.add_add] at this
   rw [this, hu]
  by_cases h0 : len = 0
  ·subst h0
   exact ⟨[], ⟨by simp, Nat.zero_le _⟩, _, _, rfl, ⟨some a, 0, cap, rfl, rfl, Nat.zero_le _, fun h => by (cases h), trivial⟩, rfl⟩
  ·obtain ⟨y0, _⟩ := each 0 (by omega)
   have : Inhabited α := ⟨y0⟩
   obtain ⟨Y, hY⟩ := choose_lt each
   have ha : a = ⟨a.block, a.off, none⟩ := by
    obtain ⟨_, vs, hvl, _, hat⟩ := hY 0 (by omega)
    have := hat 0 _ (List.getElem?_eq_getElem (show 0 < vs.length by omega))
    rw [Nat.zero_mul] at this
    exact (cell_known (by simpa [Addr.add] using this)).1
   refine ⟨(List.range len).map Y, ⟨?_, by simp; omega⟩, _, _, rfl, ⟨some a, len, cap, rfl, by simp, hl, fun h => by (cases h), RepR.intro fun j r hj => ?_⟩, rfl⟩
   ·intro x hx
    obtain ⟨i, hi, rfl⟩ := List.mem_map.1 hx
    exact (hY i (by simpa using hi)).1
   ·rw [List.getElem?_map, List.getElem?_map] at hj
    have hjl : j < len := by
     rcases Nat.lt_or_ge j len with h | h
     ·exact h
     ·rw [List.getElem?_eq_none (by simpa using h)] at hj; cases hj
    rw [List.getElem?_range hjl] at hj
    simp only [Option.map_some, Option.some.injEq] at hj
    subst hj
    obtain ⟨_, vs, hvl, hrep, hat⟩ := hY j hjl
    refine ⟨a.block, a.off, vs, by rw [← ha], hvl, hrep, fun i u hu => ?_⟩
    have := hat i u hu
    rw [ha, addr_add] at this
    have := (cell_known this).2
    rw [Nat.zero_add, Nat.add_assoc]; exact this
theorem RepL.fld {I : G} {cs : List Value} {e es : List AV} {o k : Nat} (h1 : RepL I e ((cs.drop o).take k)) (h2 : RepL I es (cs.drop (o + k))) : RepL I (e ++ es) (cs.drop o) := by
 have := h1.append h2
 rwa [← List.drop_drop, List.take_append_drop] at this
theorem RepL.fin {I : G} {cs : List Value} {o : Nat} (h : cs.length = o) : RepL I [] (cs.drop o) := List.drop_eq_nil_of_le (by omega)
theorem Dec.at {α : Type} {enc : α → List AV} {ok : α → Prop} {f : Field} {H : Type} {en : TypeId × Value → H} {held : Bool} {n o k i : Nat} {cs : List Value} {xs : List (DataW H × List MemPlace)}
  (h1 : DataW.trod en P W 0 (fun _ => true) held n f.type ((cs.drop f.offset).take (P.cellsOf f.type)) = xs[i]?) (hd : Dec P W f.type enc ok) (h2 : i < xs.length) (ho : f.offset = o) (hk : P.cellsOf f.type = k) :
  ∃ a, ok a ∧ RepL (I0 W) (enc a) ((cs.drop o).take k) := by
 rw [List.getElem?_eq_getElem h2, ho, hk] at h1
 exact hd en held n _ _ h1
end
theorem tabIs_of_reads {P : Program} {W : World} {name : String} {k : IntKind} {zs : List Int} {g : Nat} {t e : TypeId} {n : Nat}
  (hg : P.globalNamed name = some g) (hty : (P.globals[g]?).map (·.type) = some t) (ht : P.underlying t = some (.array n e)) (he : P.underlying e = some (.int k)) (hce : P.cellsOf e = 1) (hct : P.cellsOf t = n)
  (h : Lib.VarReads P W name (Lib.tabData k zs)) : Lib.TabIs P W name k zs := by
 obtain ⟨g', t', cs, fuel, p, hg', ht', hvar, hd⟩ := h
 obtain rfl := Option.some.inj (hg.symm.trans hg')
 obtain rfl := Option.some.inj (hty.symm.trans ht')
 unfold Lib.TabIs
 rw [hvar, ← Lib.cells_of_tab ht he hce hct hd]
theorem AFun.call {P : Program} {W : World} {f : FuncId} {us : List AV} {vs : List Value} {r : AV} (h : AFun P W f us r) (hr : RepL (I0 W) us vs) (hp : r.plain = true) : Calls P f vs.toArray W fun e w' => ∃ v, e = .returned v ∧ RepV (I0 W) r v ∧ Below W.heap.size W w' := by
 have := (h (I0 W) [] W vs hr ⟨⟨0, fun _ _ => rfl⟩, [], rfl, full_sl W⟩).2
 refine this.mono fun e w' ⟨v, he, J, x, O', hle, hx, hS, hxr⟩ => ⟨v, he, ?_, ?_⟩
 ·subst hxr; exact AV.plain_rep hp hx
 ·obtain ⟨_, L, _, hSL⟩ := hS
  exact hSL.belowE
end Go.Proofs.YthlpjaleclchgaaGreatDoor
namespace Go.Proofs.YthlpjaleclchgaaGreatDoor
open Go.Proofs.Tryz
section
variable {E : World} {P : Program} {n : Nat} {env : AEnv} {O O' O'' : OL} {i k m : Nat} {T : TypeId} {rows rows' : List (List AV)}
end
section
variable {E : World} {P : Program} {f : FuncId} {us bs : List AV} {r : AV}
end
section
variable {E : World} {P : Program} {n : Nat} {ops : Array Oper} {K : AEnv → OL → Prop} {env : AEnv} {O O' : OL} {rest : List Oper}
variable {d ty : Nat} {pos : String} {af : Array Edge} {t e : TypeId} {x y : Operand} {L : List (Nat × Obj)}
end
end Go.Proofs.YthlpjaleclchgaaGreatDoor
namespace Go.Proofs.YthlpjaleclchgaaGreatDoor
open Go.Proofs.Tryz
section
variable {E : World} {P : Program} {n : Nat} {ops : Array Oper} {K : AEnv → OL → Prop} {env : AEnv} {O O' : OL} {rest : List Oper}
variable {d ty : Nat} {pos : String} {af : Array Edge} {t e : TypeId} {x y : Operand}
end
end Go.Proofs.YthlpjaleclchgaaGreatDoor
namespace Go.Proofs.YthlpjaleclchgaaGreatDoor
open Go.Proofs.Tryz
section
variable {E : World} {P : Program} {n : Nat} {ops : Array Oper} {K : AEnv → OL → Prop} {env : AEnv} {O O' : OL} {rest : List Oper}
variable {d ty : Nat} {pos : String} {af : Array Edge} {t e kt : TypeId} {x y z : Operand} {b i : Nat} {es : List (ByteArray × Int)}
end
end Go.Proofs.YthlpjaleclchgaaGreatDoor
namespace Go.Proofs.YthlpjaleclchgaaGreatDoor
open Go.Proofs.Tryz
section
variable {E : World} {P : Program} {n : Nat} {ops : Array Oper} {K : AEnv → OL → Prop} {env : AEnv} {O O' : OL} {rest : List Oper} {R : AV → OL → Prop}
variable {d ty : Nat} {pos : String} {af : Array Edge} {t e : TypeId} {x y : Operand}
theorem afin.c1t {t u T i : Nat} {T' : TypeId} {cs : List AV} {n : Nat} {y : AV} (hv : env t = .po i 0) (hu : env u = y) (hO : Has O i (.cells T' cs)) (ha : ∀ w, (isAgg T).run P w = .ok true w) (hs : ∀ w, (sizeOf T).run P w = .ok n w) (hn : cs.length = n) (h : R (.tup [.agg cs, y]) O) :
  afin P E #[.cell t T, .tmp u] R .ret env O := afin.of (x := .tup [.agg cs, y]) (fun I F ρ w h1 h2 => by
 obtain ⟨L, hL, hS⟩ := h2.2
 have h3 := h1 t
 rw [hv] at h3
 obtain ⟨b, c, e1, e⟩ := h3
 obtain ⟨b', c', vs, e2, h4, hm⟩ := hO.cells hL
 rw [e1] at e2; cases e2
 have hl := run_loadVar_agg (P := P) (w := w) (b := b) (off := 0) ha (cs := vs) (by rw [h4.length, hn]; exact hs) (fun j v hj => by
  rw [Nat.zero_add]
  exact hS.at_ (.inr ⟨_, _, _, List.mem_append_left _ hm, by rw [List.getElem?_toArray]; exact hj⟩))
 exact ⟨.tuple #[.agg vs.toArray, ρ u], by simp [resE, e, asAddr, hl], ⟨[_, _], rfl, _, _, rfl, ⟨vs, rfl, h4⟩, _, _, rfl, hu ▸ h1 u, rfl⟩⟩) h
theorem run_storeRow {b off n : Nat} {vs : List Value} {T : TypeId} {old : List Value} {w : World} (hn : vs.length = n) (h1c : ∀ u ∈ vs, u.oneCell' = true) (hb : off + n ≤ old.length) (hown : w.heap[b]? = some (.cells old.toArray T (0, 0))) :
  (storeCells (⟨b, off, none⟩ : Addr) vs 0).run P w = .ok () (w.setRow b (old.take off ++ vs ++ old.drop (off + n)).toArray) := by
 rw [run_storeCells_at (P := P) b off T vs 0 old.toArray w hown (by simp; omega) h1c]
 simp [hn]
end
end Go.Proofs.YthlpjaleclchgaaGreatDoor
namespace Go.Proofs.YthlpjaleclchgaaGreatDoor
open Go.Proofs.Tryz
section
variable {E : World} {P : Program} {env : AEnv} {O : OL} {d ty : Nat} {pos : String} {af : Array Edge} {x : Operand} {t u : TypeId}
end
end Go.Proofs.YthlpjaleclchgaaGreatDoor
namespace Go.Proofs.YthlpjaleclchgaaGreatDoor
open Go.Proofs.Tryz
section
variable {E : World} {P : Program} {ops : Array Oper} {K : AEnv → OL → Prop} {env : AEnv} {O O' O'' : OL} {rest : List Oper} {n : Nat}
variable {d ty : Nat} {pos : String} {af : Array Edge} {x y z : Operand} {t u e : TypeId}
end
section
variable {P : Program} {E : World} {l : List Oper} {W : Nat → Bool} {fuel : Nat} {listed : Array Bool} {d ty : Nat} {op : Op} {pos : String} {af : Array Edge}
theorem AnyV.takeKT {S0 S : World → Prop} {Q : Env → World → Prop} {ρ : Env} {w : World} {i j s : Nat} {b t : Bool} {v : Value} (hi : l[i]? = some (Oper.mk (some d) op ty pos af (some (j, b)))) (hg : (l[j]?).bind (fun o : Oper => o.dst) = some s) (hv : ρ s = .bool t) (ht : t = b) (hs : Region.noSelect l.toArray = true) (hf : Region.free .any l.toArray listed i = true)
  (hr : (Region.ready .any l.toArray listed).contains i = true) (hWi : W i = false) (hS0 : S0 w) (hS : dirty W listed ∨ S w) (hy : ∀ w, S0 w → (execOp (ev ρ) (Oper.mk (some d) op ty pos af none)).run P w = .ok (.value v) w)
  (h : AnyV P l.toArray S0 S W Q fuel (listed.setIfInBounds i true) (upd ρ d v) w) : AnyV P l.toArray S0 S W Q (fuel + 1) listed ρ w :=
 AnyV.first (oi := Oper.mk (some d) op ty pos af (some (j, b))) (by simpa using hi) (Region.noSelect_spec hs) (Sx := S0) (C := fun _ => True) hWi (fun _ _ _ _ _ _ _ => trivial) (fun _ _ _ h _ => h) fuel listed ρ w (Region.free_spec (by simpa using hi) hf) (by simpa using hr)
  (.inl ⟨by simp only [wantedE, List.getElem?_toArray, hg, hv, ht]; simp, hy⟩) trivial hS0 hS h
theorem AnyV.takeKF {S0 S : World → Prop} {Q : Env → World → Prop} {ρ : Env} {w : World} {i j s : Nat} {b t : Bool} (hi : l[i]? = some (Oper.mk (some d) op ty pos af (some (j, b)))) (hg : (l[j]?).bind (fun o : Oper => o.dst) = some s) (hv : ρ s = .bool t) (ht : t = !b) (hs : Region.noSelect l.toArray = true) (hf : Region.free .any l.toArray listed i = true)
  (hr : (Region.ready .any l.toArray listed).contains i = true) (hWi : W i = false) (hS0 : S0 w) (hS : dirty W listed ∨ S w)
  (h : AnyV P l.toArray S0 S W Q fuel (listed.setIfInBounds i true) (upd ρ d undef) w) : AnyV P l.toArray S0 S W Q (fuel + 1) listed ρ w :=
 AnyV.first (oi := Oper.mk (some d) op ty pos af (some (j, b))) (by simpa using hi) (Region.noSelect_spec hs) (Sx := S0) (C := fun _ => True) hWi (fun _ _ _ _ _ _ _ => trivial) (fun _ _ _ h _ => h) fuel listed ρ w (Region.free_spec (by simpa using hi) hf) (by simpa using hr)
  (.inr ⟨by simp only [wantedE, List.getElem?_toArray, hg, hv, ht]; cases b <;> simp, rfl⟩) trivial hS0 hS h
theorem AAny.takeKT {Q : AEnv → OL → Prop} {env : AEnv} {Os Om : OL} {i j s : Nat} {b t : Bool} {x : AV} (hi : l[i]? = some (Oper.mk (some d) op ty pos af (some (j, b)))) (hg0 : (l[j]?).bind (fun o : Oper => o.dst) = some s) (hv0 : env s = .bool t) (ht : t = b) (hs : Region.noSelect l.toArray = true) (hf : Region.free .any l.toArray listed i = true)
  (hr : (Region.ready .any l.toArray listed).contains i = true) (hWi : W i = false) (hg : Gv P env [] (Oper.mk (some d) op ty pos af none) x)
  (h : AAny P E l W Q fuel (listed.setIfInBounds i true) (aupd env d x) Os Om) : AAny P E l W Q (fuel + 1) listed env Os Om := fun I F ρ w Ls h1 hLs h2 => by
 obtain ⟨v, hv, hrun⟩ := hg I [] E ρ h1 rfl
 exact AnyV.takeKT hi hg0 (by have := h1 s; rw [hv0] at this; exact this) ht hs hf hr hWi h2.here.less (.inr h2.here) (fun w ⟨J, L', a, b, c⟩ => hrun w J L' a b c) (h I F _ w Ls (h1.upd d hv) hLs h2)
theorem AAny.takeKF {Q : AEnv → OL → Prop} {env : AEnv} {Os Om : OL} {i j s : Nat} {b t : Bool} (hi : l[i]? = some (Oper.mk (some d) op ty pos af (some (j, b)))) (hg0 : (l[j]?).bind (fun o : Oper => o.dst) = some s) (hv0 : env s = .bool t) (ht : t = !b) (hs : Region.noSelect l.toArray = true) (hf : Region.free .any l.toArray listed i = true)
  (hr : (Region.ready .any l.toArray listed).contains i = true) (hWi : W i = false)
  (h : AAny P E l W Q fuel (listed.setIfInBounds i true) (aupd env d (.raw undef)) Os Om) : AAny P E l W Q (fuel + 1) listed env Os Om := fun I F ρ w Ls h1 hLs h2 =>
 AnyV.takeKF hi hg0 (by have := h1 s; rw [hv0] at this; exact this) ht hs hf hr hWi h2.here.less (.inr h2.here) (h I F _ w Ls (h1.upd d rfl) hLs h2)
end
theorem GStep.knowP {E : World} {env : AEnv} {O O' : OL} {t i : Nat} {T : TypeId} {cs : List AV} (hv : env t = .po i 0) (hO : Pick O i (.cells T cs) O') : GStep E env O (aupd env t (.pf cs)) O' := fun I F ρ w h1 ⟨ht, L, hL, hS⟩ => by
 obtain ⟨A, B, hp, ⟨b, c, vs, e1, hvs, hvc, rfl⟩, hB⟩ := hO.rep hL
 simp only at e1
 have hS2 : SL I.k ((b, .cells vs.toArray T (0, 0)) :: (B ++ F)) E w := hS.perm ((hp.append_right F).symm)
 obtain ⟨hl, hS3⟩ := SL.freeze hS2
 let J : G := ⟨I.k.put b (.cells vs.toArray T (0, 0)), I.h⟩
 have hle : I.le J := ⟨hl, fun _ _ h => h⟩
 refine ⟨J, hle, fun s=>?_, ht, B, hB.mono hle, hS3⟩
 unfold aupd
 cases hb : Nat.beq s t with
 | false => exact RepV.mono hle _ _ (h1 s)
 | true =>
  have : s = t := Nat.eq_of_beq_eq_true hb
  subst this
  have h2 := h1 s
  rw [hv] at h2
  obtain ⟨b2, c2, e2, e3⟩ := h2
  rw [e1] at e2
  simp only [Option.some.injEq, Prod.mk.injEq] at e2
  obtain ⟨rfl, rfl⟩ := e2
  exact ⟨b, 0, vs, e3, RepL.mono hle _ _ hvs, fun j u hj => ⟨_, _, _, Ghost.put_same _ _ _, by rw [Nat.zero_add, List.getElem?_toArray]; exact hj⟩⟩
end Go.Proofs.YthlpjaleclchgaaGreatDoor
namespace Go.Proofs.YthlpjaleclchgaaGreatDoor
open Go.Proofs.Tryz
section
variable {E : World} {P : Program} {ops : Array Oper} {K : AEnv → OL → Prop} {env : AEnv} {O O' : OL} {rest : List Oper}
variable {d ty : Nat} {pos : String} {af : Array Edge} {x y z : Operand} {t u e : TypeId}
end
end Go.Proofs.YthlpjaleclchgaaGreatDoor
namespace Go.Proofs.YthlpjaleclchgaaGreatDoor
open Go.Proofs.Tryz
section
variable {P : Program} {env : AEnv} {O : OL}
variable {d ty : Nat} {pos : String} {af : Array Edge} {x y : Operand}
theorem Gv.maxI {ts : Array TypeId} {k : IntKind} {a b : Int} (hx : aev env x = .int k a) (hy : aev env y = .int k b) : Gv P env O (Oper.mk (some d) (.call { callee := .builtin .max, args := #[x, y], argTypes := ts }) ty pos af none) (.int k (if b > a then b else a)) := Gv.ofEv fun I ρ h => ⟨_, rfl, fun w => by
 simp [execOp, resolve, evI h hx, evI h hy, invoke, builtin, Builtin.max_, Builtin.max2, Result.andThen]⟩
theorem Gv.minI {ts : Array TypeId} {k : IntKind} {a b : Int} (hx : aev env x = .int k a) (hy : aev env y = .int k b) : Gv P env O (Oper.mk (some d) (.call { callee := .builtin .min, args := #[x, y], argTypes := ts }) ty pos af none) (.int k (if b < a then b else a)) := Gv.ofEv fun I ρ h => ⟨_, rfl, fun w => by
 simp [execOp, resolve, evI h hx, evI h hy, invoke, builtin, Builtin.min_, Builtin.min2, Result.andThen]⟩
end
end Go.Proofs.YthlpjaleclchgaaGreatDoor
namespace Go.Proofs.YthlpjaleclchgaaGreatDoor
open Go.Proofs.Tryz
open Go.Lib
section
variable {P : Program} {ops : Array Oper} {K : Env → World → Prop} {ρ : Env} {w : World} {rest : List Oper}
variable {d ty : Nat} {pos : String} {af : Array Edge} {x y z : Operand} {t u e : TypeId}
variable {I : Ghost} {O A : List (Nat × Obj)} {E : World}
end
section
variable {E : World} {P : Program} {ops : Array Oper} {K : AEnv → OL → Prop} {env : AEnv} {O O' : OL} {rest : List Oper}
variable {d ty : Nat} {pos : String} {af : Array Edge} {x y z : Operand} {t u e : TypeId}
end
section
variable {E : World} {P : Program} {env : AEnv} {O : OL} {d ty : Nat} {pos : String} {af : Array Edge} {t e kt : TypeId} {x y : Operand} {b i : Nat} {es : List (ByteArray × Int)}
end
end Go.Proofs.YthlpjaleclchgaaGreatDoor
namespace Go.Proofs.YthlpjaleclchgaaGreatDoor
open Go.Proofs.Tryz
section
variable {E : World} {P : Program} {ops : Array Oper} {K : AEnv → OL → Prop} {env : AEnv} {O O' O'' : OL} {rest : List Oper} {n : Nat}
variable {d ty : Nat} {pos : String} {af : Array Edge} {x y z : Operand} {t u e : TypeId}
end
structure Enc (α : Type) where
 k : Nat
 val : α → List Value
 pos : 0 < k
 len : ∀ x, (val x).length = k
 one : ∀ x, ∀ u ∈ val x, u.oneCell' = true
variable {α : Type}
def Enc.vs (c : Enc α) (l : List α) : List Value := l.flatMap c.val
theorem Enc.vs_len (c : Enc α) (l : List α) : (c.vs l).length = l.length * c.k := by
 unfold Enc.vs
 induction l with
 | nil => simp
 | cons x l ih => rw [List.flatMap_cons, List.length_append, ih, c.len, List.length_cons, Nat.add_mul]; omega
section
variable {E : World} {P : Program} {ops : Array Oper} {K : AEnv → OL → Prop} {env : AEnv} {O O' O'' : OL} {rest : List Oper} {n : Nat}
variable {d ty : Nat} {pos : String} {af : Array Edge} {x y z : Operand} {t u e T : TypeId}
theorem SL.freezeAllN : ∀ {A : List (Nat × Obj)} {I : Ghost} {F : List (Nat × Obj)} {E w : World}, SL I (A ++ F) E w → ∃ J, I.le J ∧ SL J F E w ∧ ∀ x ∈ A, J x.1 = some x.2
 | [], I, F, E, w, h => ⟨I, .refl _, h, fun _ h => by cases h⟩
 | (b, o) :: A, I, F, E, w, h => by
  obtain ⟨h1, h2⟩ := SL.freeze (show SL I ((b, o) :: (A ++ F)) E w from h)
  obtain ⟨J, h3, h4, h5⟩ := SL.freezeAllN h2
  refine ⟨J, h1.trans h3, h4, fun x hx => ?_⟩
  rcases List.mem_cons.1 hx with rfl | hx
  ·exact h3 _ _ (Ghost.put_same _ _ _)
  ·exact h5 x hx
end
end Go.Proofs.YthlpjaleclchgaaGreatDoor
namespace Go.Proofs.YthlpjaleclchgaaGreatDoor
open Go.Proofs.Tryz
section
variable {E : World} {P : Program} {ops : Array Oper} {K : AEnv → OL → Prop} {env : AEnv} {O O' O'' : OL} {rest : List Oper} {n : Nat}
variable {d ty : Nat} {pos : String} {af : Array Edge} {x y z : Operand} {t u e : TypeId}
end
end Go.Proofs.YthlpjaleclchgaaGreatDoor
namespace Go.Proofs.YthlpjaleclchgaaGreatDoor
open Go.Proofs.Tryz
open Go.Proofs
variable {E : World}
set_option maxRecDepth 20000
end Go.Proofs.YthlpjaleclchgaaGreatDoor
namespace Go.Proofs.YthlpjaleclchgaaGreatDoor
open Go.Proofs.Tryz
section
variable {S : Int → List Int}
end
section
variable {S : Int → List Int} {at_ : Int → Int} {V : List Int} {N : Int → Int}
variable {b m : Int}
end
end Go.Proofs.YthlpjaleclchgaaGreatDoor
namespace Go.Proofs.YthlpjaleclchgaaGreatDoor
open Go.Proofs.Tryz
section
variable {S : Int → List Int} {at_ : Int → Int} {V : List Int} {N : Int → Int} {b m : Int}
end
end Go.Proofs.YthlpjaleclchgaaGreatDoor
namespace Go.Proofs.YthlpjaleclchgaaGreatDoor
open Go.Proofs.Tryz
section
variable {S : Int → List Int} {at_ V : List Int} {preds : Int → List Int} {n : Nat}
end
end Go.Proofs.YthlpjaleclchgaaGreatDoor
namespace Go.Proofs.YthlpjaleclchgaaGreatDoor
open Go.Proofs.Tryz
def gb (l : List Bool) (x : Int) : Bool := (l[x.toNat]?).getD false
structure EOk (E : Int → List Int) (n : Nat) : Prop where
 npos : 0 < n
 rng : ∀ b : Int, 0 ≤ b → b < n → ∀ c ∈ E b, 0 ≤ c ∧ c < n
 len : ∀ b, (E b).length ≤ 2
section
variable {E : Int → List Int} {n : Nat} (hE : EOk E n)
include hE
end
end Go.Proofs.YthlpjaleclchgaaGreatDoor
namespace Go.Proofs.YthlpjaleclchgaaGreatDoor
open Go.Proofs.Tryz
structure Grph (E : Int → List Int) (n : Nat) : Prop extends EOk E n where
 out : ∀ x : Int, ¬ (0 ≤ x ∧ x < n) → E x = []
section
variable {E : Int → List Int} {n : Nat} (hE : Grph E n)
include hE
end
section
variable {E : Int → List Int} {n : Nat} (hE : Grph E n)
include hE
end
section
variable {E : Int → List Int} {n : Nat} (hE : Grph E n)
include hE
end
end Go.Proofs.YthlpjaleclchgaaGreatDoor
namespace Go.Proofs.YthlpjaleclchgaaGreatDoor
open Go.Proofs.Tryz
end Go.Proofs.YthlpjaleclchgaaGreatDoor
namespace Go.Proofs.YthlpjaleclchgaaGreatDoor
open Go.Proofs.Tryz
open Go.Proofs
variable {E : World}
set_option maxRecDepth 20000
end Go.Proofs.YthlpjaleclchgaaGreatDoor
namespace Go.Proofs.YthlpjaleclchgaaGreatDoor
open Go.Proofs.Tryz
open Go.Sort (Holds putRow putCells onCells)
end Go.Proofs.YthlpjaleclchgaaGreatDoor
namespace Go.Proofs.YthlpjaleclchgaaGreatDoor
open Go.Proofs.Tryz
variable {α : Type}
section
variable {E : World} {P : Program} {ops : Array Oper} {K : AEnv → OL → Prop} {env : AEnv} {O O' O'' : OL} {rest : List Oper} {n : Nat}
variable {d ty : Nat} {pos : String} {af : Array Edge} {x y z : Operand} {t u e T : TypeId}
end
end Go.Proofs.YthlpjaleclchgaaGreatDoor
namespace Go.Proofs.YthlpjaleclchgaaGreatDoor
open Go.Proofs.Tryz
open Go.Proofs
variable {E : World}
set_option maxRecDepth 20000
end Go.Proofs.YthlpjaleclchgaaGreatDoor
namespace Go.Proofs.YthlpjaleclchgaaGreatDoor
open Go.Proofs.Tryz
section
variable {E : World} {P : Program} {n : Nat} {l : List Oper} {W : Nat → Bool} {Q : AEnv → OL → Prop} {fuel : Nat} {listed : Array Bool} {env : AEnv} {O Os Om : OL}
end
end Go.Proofs.YthlpjaleclchgaaGreatDoor
namespace Go.Proofs.YthlpjaleclchgaaGreatDoor
open Go.Proofs.Tryz
end Go.Proofs.YthlpjaleclchgaaGreatDoor
namespace Go.Proofs.YthlpjaleclchgaaGreatDoor
open Go.Proofs.Tryz
section
variable {E : World} {P : Program} {ops : Array Oper} {K : AEnv → OL → Prop} {env : AEnv} {O O' O'' : OL} {rest : List Oper}
variable {d ty : Nat} {pos : String} {af : Array Edge} {x y z : Operand} {t u e T : TypeId}
end
section
variable {P : Program} {E : World} {l : List Oper} {W : Nat → Bool} {fuel : Nat} {listed : Array Bool} {d ty : Nat} {op : Op} {pos : String} {af : Array Edge} {Q : AEnv → OL → Prop} {env : AEnv} {Os Om : OL}
def okTk (l : List Oper) (W : Nat → Bool) (listed : Array Bool) (i : Nat) : Bool := Region.noSelect l.toArray && (Region.free .any l.toArray listed i && ((Region.ready .any l.toArray listed).contains i && (waitsB l i W && (!W i && cleanB W listed))))
theorem okTk.of {i : Nat} (h : okTk l W listed i = true) : Region.noSelect l.toArray = true ∧ Region.free .any l.toArray listed i = true ∧ (Region.ready .any l.toArray listed).contains i = true ∧ waitsB l i W = true ∧ W i = false ∧ cleanB W listed = true := by
 simpa only [okTk, Bool.and_eq_true, Bool.not_eq_true'] using h
theorem zTk (i : Nat) {x : AV} (hi : l[i]? = some (Oper.mk (some d) op ty pos af none)) (hg : Gv P env Os (Oper.mk (some d) op ty pos af none) x)
  (h : AAny P E l W Q fuel (listed.setIfInBounds i true) (aupd env d x) Os Om) (hb : okTk l W listed i = true := by kernel_rfl) : AAny P E l W Q (fuel + 1) listed env Os Om :=
 have ⟨a, b, c, e, g, k⟩ := okTk.of hb
 AAny.take hi a b c e g k hg h
theorem zTt (i : Nat) {j s : Nat} {b t : Bool} {x : AV} (hi : l[i]? = some (Oper.mk (some d) op ty pos af (some (j, b)))) (hg0 : (l[j]?).bind (fun o : Oper => o.dst) = some s) (hv0 : env s = .bool t) (ht : t = b) (hg : Gv P env Os (Oper.mk (some d) op ty pos af none) x)
  (h : AAny P E l W Q fuel (listed.setIfInBounds i true) (aupd env d x) Os Om) (hb : okTk l W listed i = true := by kernel_rfl) : AAny P E l W Q (fuel + 1) listed env Os Om :=
 have ⟨a, b, c, e, g, k⟩ := okTk.of hb
 AAny.takeT hi hg0 hv0 ht a b c e g k hg h
theorem zTf (i : Nat) {j s : Nat} {b t : Bool} (hi : l[i]? = some (Oper.mk (some d) op ty pos af (some (j, b)))) (hg0 : (l[j]?).bind (fun o : Oper => o.dst) = some s) (hv0 : env s = .bool t) (ht : t = !b)
  (h : AAny P E l W Q fuel (listed.setIfInBounds i true) (aupd env d (.raw undef)) Os Om) (hb : okTk l W listed i = true := by kernel_rfl) : AAny P E l W Q (fuel + 1) listed env Os Om :=
 have ⟨a, b, c, e, g, k⟩ := okTk.of hb
 AAny.takeF hi hg0 hv0 ht a b c e g k h
theorem zOn (i : Nat) {o : Oper} (hi : l[i]? = some o) (h : AOps P E l.toArray (fun env' Om' => AAny P E l W Q fuel (listed.setIfInBounds i true) env' Os Om') [o] env Om) (hr : Region.ready .any l.toArray listed = [i] := by kernel_rfl) : AAny P E l W Q (fuel + 1) listed env Os Om := AAny.one hi hr h
theorem zDn (h : Q env (Os ++ Om)) (hr : Region.ready .any l.toArray listed = [] := by kernel_rfl) : AAny P E l W Q fuel listed env Os Om := AAny.done hr h
variable {x y z : Operand} {t : TypeId} {O : OL}
theorem zMi {k : IntKind} {a : Int} (hx : aev env x = .int k a) : Gv P env O (Oper.mk (some d) (.move x) ty pos af none) (.int k a) := yn hx
theorem zMb {a : Bool} (hx : aev env x = .bool a) : Gv P env O (Oper.mk (some d) (.move x) ty pos af none) (.bool a) := yn hx
theorem zMf {k : Nat} {a : List (List AV)} (hx : aev env x = .fro k a) : Gv P env O (Oper.mk (some d) (.move x) ty pos af none) (.fro k a) := yn hx
theorem zAi {k : IntKind} {a : Int} (hx : aev env x = .int k a) : Gv P env O (Oper.mk (some d) (.assign x) ty pos af none) (.int k a) := yb hx
theorem zAb {a : Bool} (hx : aev env x = .bool a) : Gv P env O (Oper.mk (some d) (.assign x) ty pos af none) (.bool a) := yb hx
theorem zAf {k : Nat} {a : List (List AV)} (hx : aev env x = .fro k a) : Gv P env O (Oper.mk (some d) (.assign x) ty pos af none) (.fro k a) := yb hx
theorem zLi {k : IntKind} {a : Int} {cs : List AV} (ha : ∀ w, (isAgg t).run P w = .ok false w) (hx : aev env x = .pf (.int k a :: cs)) : Gv P env O (Oper.mk (some d) (.load t x) ty pos af none) (.int k a) := Gv.load1F ha hx
theorem zLf {k : Nat} {a : List (List AV)} {cs : List AV} (ha : ∀ w, (isAgg t).run P w = .ok false w) (hx : aev env x = .pf (.fro k a :: cs)) : Gv P env O (Oper.mk (some d) (.load t x) ty pos af none) (.fro k a) := Gv.load1F ha hx
theorem zPt {b v : Bool} (hc : aev env x = .bool b) (hb : b = true) (hy : aev env y = .bool v) : Gv P env O (Oper.mk (some d) (.pick x y z) ty pos af none) (.bool v) := Gv.pickT hc hb hy
theorem zPf {b v : Bool} (hc : aev env x = .bool b) (hb : b = false) (hy : aev env z = .bool v) : Gv P env O (Oper.mk (some d) (.pick x y z) ty pos af none) (.bool v) := Gv.pickF hc hb hy
theorem zMo {i m : Nat} (hx : aev env x = .own i m) : Gv P env O (Oper.mk (some d) (.move x) ty pos af none) (.own i m) := yn hx
theorem zMp {i m : Nat} (hx : aev env x = .po i m) : Gv P env O (Oper.mk (some d) (.move x) ty pos af none) (.po i m) := yn hx
theorem zMg {cs : List AV} (hx : aev env x = .pf cs) : Gv P env O (Oper.mk (some d) (.move x) ty pos af none) (.pf cs) := yn hx
theorem zMu {cs : List AV} (hx : aev env x = .tup cs) : Gv P env O (Oper.mk (some d) (.move x) ty pos af none) (.tup cs) := yn hx
theorem zAo {i m : Nat} (hx : aev env x = .own i m) : Gv P env O (Oper.mk (some d) (.assign x) ty pos af none) (.own i m) := yb hx
theorem zAp {i m : Nat} (hx : aev env x = .po i m) : Gv P env O (Oper.mk (some d) (.assign x) ty pos af none) (.po i m) := yb hx
theorem zAr {a : Value} (hx : aev env x = .raw a) : Gv P env O (Oper.mk (some d) (.assign x) ty pos af none) (.raw a) := yb hx
theorem zXi {vs : List AV} {i : Nat} {k : IntKind} {a : Int} (hx : aev env x = .tup vs) (hv : vs[i]? = some (.int k a)) : Gv P env O (Oper.mk (some d) (.extract x i) ty pos af none) (.int k a) := Gv.extract hx hv
theorem zXb {vs : List AV} {i : Nat} {a : Bool} (hx : aev env x = .tup vs) (hv : vs[i]? = some (.bool a)) : Gv P env O (Oper.mk (some d) (.extract x i) ty pos af none) (.bool a) := Gv.extract hx hv
theorem zFF {fs : Array Field} {f : Field} {i sz : Nat} {cs cs' : List AV} (ht : P.underlying t = some (.struct fs)) (hf : fs[i]? = some f) (hs : ∀ w, (sizeOf f.type).run P w = .ok sz w)
  (hx : aev env x = .pf cs) (hr : cs.drop f.offset = cs') (hz : sz ≠ 0 := by decide) : Gv P env O (Oper.mk (some d) (.fieldAddr t x i) ty pos af none) (.pf cs') := Gv.fieldF ht hf hs hz hx hr
theorem zAd {u : TypeId} {a b : Int} (hx : aev env x = .int .i64 a) (hy : aev env y = .int .i64 b) (hr : I64 (a + b) := by unfold I64; omega) : Gv P env O (Oper.mk (some d) (.binOp .add t x y u) ty pos af none) (.int .i64 (a + b)) := Gv.add hx hy hr
theorem zSr {n id : Nat} {y : Code} {R : Exit → AEnv → OL → Prop} (h : AOps P E l.toArray (aseqQ (AWP P E n y R) R .normal) l env O) (hd : dstsOk n l = true := by exact rfl) : AWP P E n (.seq (.region id l.toArray false) y) R env O := zg (zu hd h)
theorem zRg {n id : Nat} {R : Exit → AEnv → OL → Prop} (h : AOps P E l.toArray (R .normal) l env O) (hd : dstsOk n l = true := by exact rfl) : AWP P E n (.region id l.toArray false) R env O := zu hd h
theorem zIM {α : Type} {enc : α → List AV} {xs : List α} {k : Nat} {e : TypeId} (j : Nat) {i : Int} {v : α} (ht : P.underlying t = some (.slice e)) (hs : ∀ w, (sizeOf e).run P w = .ok k w) (hx : aev env x = .fro k (xs.map enc)) (hy : aev env y = .int .i64 i) (hi : i = (j : Int)) (hj : xs[j]? = some v) :
  Gv P env O (Oper.mk (some d) (.indexAddr t x y) ty pos af none) (.pf (enc v)) := Gv.idxM ht hs hx hy hi hj
theorem zLe {O : OL} : Left O O := ⟨_, .refl _, rfl⟩
theorem Pick.t1 {x0 : Nat × AObj} {O : OL} {i : Nat} {o : AObj} : Pick (x0 :: (i, o) :: O) i o (x0 :: O) := .tail .head
theorem Put.t1 {x0 : Nat × AObj} {O : OL} {i : Nat} {o o' : AObj} : Put (x0 :: (i, o) :: O) i o o' (x0 :: (i, o') :: O) := .tail .head
theorem Swp.t1 {x0 : Nat × AObj} {O : OL} {i j : Nat} {o o' : AObj} : Swp (x0 :: (i, o) :: O) i o j o' (x0 :: (j, o') :: O) := .tail .head
theorem Pick.t2 {x0 x1 : Nat × AObj} {O : OL} {i : Nat} {o : AObj} : Pick (x0 :: x1 :: (i, o) :: O) i o (x0 :: x1 :: O) := .tail .t1
theorem Put.t2 {x0 x1 : Nat × AObj} {O : OL} {i : Nat} {o o' : AObj} : Put (x0 :: x1 :: (i, o) :: O) i o o' (x0 :: x1 :: (i, o') :: O) := .tail .t1
theorem Swp.t2 {x0 x1 : Nat × AObj} {O : OL} {i j : Nat} {o o' : AObj} : Swp (x0 :: x1 :: (i, o) :: O) i o j o' (x0 :: x1 :: (j, o') :: O) := .tail .t1
theorem Pick.t3 {x0 x1 x2 : Nat × AObj} {O : OL} {i : Nat} {o : AObj} : Pick (x0 :: x1 :: x2 :: (i, o) :: O) i o (x0 :: x1 :: x2 :: O) := .tail .t2
theorem Put.t3 {x0 x1 x2 : Nat × AObj} {O : OL} {i : Nat} {o o' : AObj} : Put (x0 :: x1 :: x2 :: (i, o) :: O) i o o' (x0 :: x1 :: x2 :: (i, o') :: O) := .tail .t2
theorem Swp.t3 {x0 x1 x2 : Nat × AObj} {O : OL} {i j : Nat} {o o' : AObj} : Swp (x0 :: x1 :: x2 :: (i, o) :: O) i o j o' (x0 :: x1 :: x2 :: (j, o') :: O) := .tail .t2
theorem Pick.t4 {x0 x1 x2 x3 : Nat × AObj} {O : OL} {i : Nat} {o : AObj} : Pick (x0 :: x1 :: x2 :: x3 :: (i, o) :: O) i o (x0 :: x1 :: x2 :: x3 :: O) := .tail .t3
theorem Put.t4 {x0 x1 x2 x3 : Nat × AObj} {O : OL} {i : Nat} {o o' : AObj} : Put (x0 :: x1 :: x2 :: x3 :: (i, o) :: O) i o o' (x0 :: x1 :: x2 :: x3 :: (i, o') :: O) := .tail .t3
theorem Swp.t4 {x0 x1 x2 x3 : Nat × AObj} {O : OL} {i j : Nat} {o o' : AObj} : Swp (x0 :: x1 :: x2 :: x3 :: (i, o) :: O) i o j o' (x0 :: x1 :: x2 :: x3 :: (j, o') :: O) := .tail .t3
theorem Pick.t5 {x0 x1 x2 x3 x4 : Nat × AObj} {O : OL} {i : Nat} {o : AObj} : Pick (x0 :: x1 :: x2 :: x3 :: x4 :: (i, o) :: O) i o (x0 :: x1 :: x2 :: x3 :: x4 :: O) := .tail .t4
theorem Put.t5 {x0 x1 x2 x3 x4 : Nat × AObj} {O : OL} {i : Nat} {o o' : AObj} : Put (x0 :: x1 :: x2 :: x3 :: x4 :: (i, o) :: O) i o o' (x0 :: x1 :: x2 :: x3 :: x4 :: (i, o') :: O) := .tail .t4
theorem Swp.t5 {x0 x1 x2 x3 x4 : Nat × AObj} {O : OL} {i j : Nat} {o o' : AObj} : Swp (x0 :: x1 :: x2 :: x3 :: x4 :: (i, o) :: O) i o j o' (x0 :: x1 :: x2 :: x3 :: x4 :: (j, o') :: O) := .tail .t4
theorem Pick.t6 {x0 x1 x2 x3 x4 x5 : Nat × AObj} {O : OL} {i : Nat} {o : AObj} : Pick (x0 :: x1 :: x2 :: x3 :: x4 :: x5 :: (i, o) :: O) i o (x0 :: x1 :: x2 :: x3 :: x4 :: x5 :: O) := .tail .t5
theorem Put.t6 {x0 x1 x2 x3 x4 x5 : Nat × AObj} {O : OL} {i : Nat} {o o' : AObj} : Put (x0 :: x1 :: x2 :: x3 :: x4 :: x5 :: (i, o) :: O) i o o' (x0 :: x1 :: x2 :: x3 :: x4 :: x5 :: (i, o') :: O) := .tail .t5
theorem Swp.t6 {x0 x1 x2 x3 x4 x5 : Nat × AObj} {O : OL} {i j : Nat} {o o' : AObj} : Swp (x0 :: x1 :: x2 :: x3 :: x4 :: x5 :: (i, o) :: O) i o j o' (x0 :: x1 :: x2 :: x3 :: x4 :: x5 :: (j, o') :: O) := .tail .t5
theorem Pick.t7 {x0 x1 x2 x3 x4 x5 x6 : Nat × AObj} {O : OL} {i : Nat} {o : AObj} : Pick (x0 :: x1 :: x2 :: x3 :: x4 :: x5 :: x6 :: (i, o) :: O) i o (x0 :: x1 :: x2 :: x3 :: x4 :: x5 :: x6 :: O) := .tail .t6
theorem Put.t7 {x0 x1 x2 x3 x4 x5 x6 : Nat × AObj} {O : OL} {i : Nat} {o o' : AObj} : Put (x0 :: x1 :: x2 :: x3 :: x4 :: x5 :: x6 :: (i, o) :: O) i o o' (x0 :: x1 :: x2 :: x3 :: x4 :: x5 :: x6 :: (i, o') :: O) := .tail .t6
theorem Swp.t7 {x0 x1 x2 x3 x4 x5 x6 : Nat × AObj} {O : OL} {i j : Nat} {o o' : AObj} : Swp (x0 :: x1 :: x2 :: x3 :: x4 :: x5 :: x6 :: (i, o) :: O) i o j o' (x0 :: x1 :: x2 :: x3 :: x4 :: x5 :: x6 :: (j, o') :: O) := .tail .t6
theorem Pick.t8 {x0 x1 x2 x3 x4 x5 x6 x7 : Nat × AObj} {O : OL} {i : Nat} {o : AObj} : Pick (x0 :: x1 :: x2 :: x3 :: x4 :: x5 :: x6 :: x7 :: (i, o) :: O) i o (x0 :: x1 :: x2 :: x3 :: x4 :: x5 :: x6 :: x7 :: O) := .tail .t7
theorem Put.t8 {x0 x1 x2 x3 x4 x5 x6 x7 : Nat × AObj} {O : OL} {i : Nat} {o o' : AObj} : Put (x0 :: x1 :: x2 :: x3 :: x4 :: x5 :: x6 :: x7 :: (i, o) :: O) i o o' (x0 :: x1 :: x2 :: x3 :: x4 :: x5 :: x6 :: x7 :: (i, o') :: O) := .tail .t7
theorem Swp.t8 {x0 x1 x2 x3 x4 x5 x6 x7 : Nat × AObj} {O : OL} {i j : Nat} {o o' : AObj} : Swp (x0 :: x1 :: x2 :: x3 :: x4 :: x5 :: x6 :: x7 :: (i, o) :: O) i o j o' (x0 :: x1 :: x2 :: x3 :: x4 :: x5 :: x6 :: x7 :: (j, o') :: O) := .tail .t7
theorem zR1 {α0 : Sort _} {a0 : α0} : a0 = a0 ∧ True := ⟨rfl, trivial⟩
theorem zR2 {α0 : Sort _} {a0 : α0} {α1 : Sort _} {a1 : α1} : a0 = a0 ∧ a1 = a1 ∧ True := ⟨rfl, rfl, trivial⟩
theorem zR3 {α0 : Sort _} {a0 : α0} {α1 : Sort _} {a1 : α1} {α2 : Sort _} {a2 : α2} : a0 = a0 ∧ a1 = a1 ∧ a2 = a2 ∧ True := ⟨rfl, rfl, rfl, trivial⟩
variable {ops : Array Oper} {K : AEnv → OL → Prop} {rest : List Oper} {u e : TypeId}
theorem zVzMi {k : IntKind} {a : Int} (hx : aev env x = .int k a) (kk : AOps P E ops K rest (aupd env d (.int k a)) O) : AOps P E ops K (Oper.mk (some d) (.move x) ty pos af none :: rest) env O := z6 (zMi hx) kk
theorem zVzAb {a : Bool} (hx : aev env x = .bool a) (kk : AOps P E ops K rest (aupd env d (.bool a)) O) : AOps P E ops K (Oper.mk (some d) (.assign x) ty pos af none :: rest) env O := z6 (zAb hx) kk
theorem zVzMb {a : Bool} (hx : aev env x = .bool a) (kk : AOps P E ops K rest (aupd env d (.bool a)) O) : AOps P E ops K (Oper.mk (some d) (.move x) ty pos af none :: rest) env O := z6 (zMb hx) kk
theorem zVzFF {fs : Array Field} {f : Field} {i sz : Nat} {cs cs' : List AV} (ht : P.underlying t = some (.struct fs)) (hf : fs[i]? = some f) (hs : ∀ w, (sizeOf f.type).run P w = .ok sz w) (hx : aev env x = .pf cs) (hr : cs.drop f.offset = cs') (kk : AOps P E ops K rest (aupd env d (.pf cs')) O) (hz : sz ≠ 0 := by decide) : AOps P E ops K (Oper.mk (some d) (.fieldAddr t x i) ty pos af none :: rest) env O := z6 (zFF ht hf hs hx hr hz) kk
theorem zVzLi {k : IntKind} {a : Int} {cs : List AV} (ha : ∀ w, (isAgg t).run P w = .ok false w) (hx : aev env x = .pf (.int k a :: cs)) (kk : AOps P E ops K rest (aupd env d (.int k a)) O) : AOps P E ops K (Oper.mk (some d) (.load t x) ty pos af none :: rest) env O := z6 (zLi ha hx) kk
theorem zVzPt {b v : Bool} (hc : aev env x = .bool b) (hb : b = true) (hy : aev env y = .bool v) (kk : AOps P E ops K rest (aupd env d (.bool v)) O) : AOps P E ops K (Oper.mk (some d) (.pick x y z) ty pos af none :: rest) env O := z6 (zPt hc hb hy) kk
end
set_option linter.defProp false
def wz := @Tryz.underlying106
def j4 := @Tryz.sizeOf106
def j5 := @Tryz.zeroValue106
def j6 := @Tryz.sizeOf2
def j7 := @Tryz.underlying25
def j8 := @Tryz.isAgg2
def j9 := @Tryz.sizeOf94
def ja := @Tryz.sizeOf89
def jc := @Tryz.underlying94
def jd := @Tryz.zeroValue94
def je := @Tryz.sizeOf3
def jf := @Tryz.isAgg3
def jg := @Tryz.underlying23
def jh := @Tryz.underlying89
def ji := @Tryz.underlying26
def jj := @Tryz.underlying4
def jk := @Tryz.underlying109
def jl := @Tryz.isAgg89
def jm := @Tryz.underlying99
def jn := @Tryz.sizeOf23
def jo := @Tryz.zeroValue89
def jp := @Tryz.underlying35
def jq := @Tryz.underlying206
def jr := @Tryz.sizeOf99
def js := @Tryz.isAgg23
def jt := @Tryz.underlying2
def ju := @Tryz.sizeOf22
def jv := @Tryz.isAgg99
def jw := @Tryz.isAgg4
set_option linter.defProp false
def zb := @AOps.storeW
def zc := @AOps.callP
def zd := @AAnyW.one
def ze := @AOps.alloc
def zh := @afin.t1
def zi := @AAny.writes
def zj := @GStep.perm
def zk := @AAnyW.done
def zm := @Pick.perm
def zn := @GStep.ops
def zo := @Gv.build
def zp := @ACall.intro
def zt := @AAny.takeK
def zy := @AWP.regionDraw
def yc := @AAny.two
def yd := @Part.perm
def ye := @GStep.knowP
def yi := @AOps.boxF
def yo := @GStep.wp
def yr := @List.getElem?_eq_getElem
def yt := @Bool.and_eq_true
theorem Z {α : Sort _} {a : α} : a = a := rfl
end Go.Proofs.YthlpjaleclchgaaGreatDoor
