/- What is made, written, grown, called. No conditions but bounds. -/
import Derived.Test.YtlfhoiakmbcnlaaDoorAx
namespace Go.Proofs.YtlfhoiakmbcnlaaDoor

def lit : Value → AV
  | .bool b => .bool b
  | .int k n => .int k n
  | .string s => .str s
  | v => .raw v
theorem lit_rep (I : G) (v : Value) : RepV I (lit v) v := by cases v <;> exact rfl
theorem lit_reps (I : G) : ∀ l : List Value, RepL I (l.map lit) l
  | [] => rfl
  | v :: l => ⟨v, l, rfl, lit_rep I v, lit_reps I l⟩

/-- The cells that a value takes. -/
def AV.cs : AV → List AV
  | .agg cs => cs
  | x => [x]
def AV.sto : AV → Bool
  | .any | .tup _ => false
  | .raw v => v.oneCell'
  | _ => true
theorem AV.cs_rep {I : G} {x : AV} {v : Value} (h : RepV I x v) (hs : x.sto = true) : RepL I x.cs v.cells.toList := by
  cases x
  case agg cs => obtain ⟨vs, e, h2⟩ := h; subst e; simpa [AV.cs, Value.cells] using h2
  case any => cases hs
  case tup => cases hs
  all_goals
    have hc : v.cells = #[v] := by
      have := AV.cell_rep h (by first | rfl | exact hs)
      cases v <;> first | rfl | (simp [Value.oneCell'] at this)
    rw [hc]
    exact RepL.one h

/-- A new name. -/
theorem SLA.name {I : G} {O : OL} {F : List (Nat × Obj)} {E w : World} (h : SLA I O F E w) : ∃ i, ∀ hd : Option Nat × Nat, ∃ J : G, J.k = I.k ∧ I.le J ∧ J.h i = some hd ∧ ∃ top, ∀ i, top ≤ i → J.h i = none := by
  obtain ⟨⟨top, ht⟩, _⟩ := h
  refine ⟨top, fun hd => ⟨⟨I.k, fun j => if j = top then some hd else I.h j⟩, rfl, ⟨.refl _, fun i x hi => ?_⟩, by simp, top + 1, fun i hi => ?_⟩⟩
  · have : i ≠ top := fun e => by rw [e, ht top (Nat.le_refl _)] at hi; cases hi
    simp [this, hi]
  · simp only
    rw [if_neg (by omega)]; exact ht i (by omega)

theorem RepOs.perm {I : G} {O O' : OL} (h : O.Perm O') : ∀ {L}, RepOs I O L → ∃ L', RepOs I O' L' ∧ L.Perm L' := by
  induction h with
  | nil => intro L h; exact ⟨L, h, .refl _⟩
  | cons x _ ih => rintro L ⟨A, B, e, h1, h2⟩; obtain ⟨B', h3, h4⟩ := ih h2; exact ⟨A ++ B', ⟨A, B', rfl, h1, h3⟩, e ▸ h4.append_left A⟩
  | swap x y l =>
    rintro L ⟨A, B, e, h1, C, D, e2, h2, h3⟩
    refine ⟨C ++ (A ++ D), ⟨C, A ++ D, rfl, h2, A, D, rfl, h1, h3⟩, ?_⟩
    subst e e2
    rw [← List.append_assoc, ← List.append_assoc]
    exact List.perm_append_comm.append_right D
  | trans _ _ ih1 ih2 => intro L h; obtain ⟨L1, h1, h2⟩ := ih1 h; obtain ⟨L2, h3, h4⟩ := ih2 h1; exact ⟨L2, h3, h2.trans h4⟩

/-- What a function does: from what is owned, `O`, it makes a value and what is owned then. -/
def ACall (P : Program) (E : World) (f : FuncId) (args : List AV) (O : OL) (R : AV → OL → Prop) : Prop :=
  ∀ I F w vs, RepL I args vs → SLA I O F E w → Fn P f vs.toArray w fun v w' => ∃ J x O', I.le J ∧ RepV J x v ∧ SLA J O' F E w' ∧ R x O'
/-- A function that only answers. -/
def AFun (P : Program) (E : World) (f : FuncId) (args : List AV) (r : AV) : Prop := ACall P E f args [] fun x _ => x = r

theorem ACall.mono {E : World} {P : Program} {f : FuncId} {args : List AV} {O : OL} {R R' : AV → OL → Prop} (h : ACall P E f args O R) (hr : ∀ x O, R x O → R' x O) : ACall P E f args O R' := fun I F w vs h1 h2 =>
  (h I F w vs h1 h2).mono fun _ _ ⟨J, x, O', a, b, c, d⟩ => ⟨J, x, O', a, b, c, hr _ _ d⟩

/-- The way out. -/
def ares (E : World) (rs : Array ResultVar) (env : AEnv) (O : OL) (P : Program) (x : AV) : Prop :=
  ∀ I F ρ w, RepE I env ρ → SLA I O F E w → ∃ v, resE rs ρ P w = .ok v w ∧ RepV I x v
def afin (P : Program) (E : World) (rs : Array ResultVar) (R : AV → OL → Prop) : Exit → AEnv → OL → Prop := fun e env O =>
  match e with
  | .normal | .ret => ∀ I F ρ w, RepE I env ρ → SLA I O F E w → ∃ v, resE rs ρ P w = .ok v w ∧ ∃ J x O', I.le J ∧ RepV J x v ∧ SLA J O' F E w ∧ R x O'
  | _ => False
def aenv0 (args : List AV) : AEnv := fun t => (args[t]?).getD (.raw undef)

theorem aenv0_rep {I : G} {args : List AV} {vs : List Value} (h : RepL I args vs) : RepE I (aenv0 args) (env0 vs.toArray) := fun t => by
  unfold aenv0 env0
  cases ha : args[t]? with
  | none =>
    have : vs[t]? = none := by
      rw [List.getElem?_eq_none_iff] at ha ⊢
      rw [h.length]; exact ha
    simp [Array.getD_eq_getD_getElem?, this, RepV]
  | some x =>
    obtain ⟨v, hv, hr⟩ := h.get ha
    simp [Array.getD_eq_getD_getElem?, hv, hr]

theorem ACall.intro {E : World} {P : Program} {f : FuncId} {fn : Func} {c : Code} {args : List AV} {O : OL} {R : AV → OL → Prop} (hf : P.funcs[f]? = some fn) (hb : fn.body = some c)
    (hn : fn.name ≠ "runtime.NumGoroutine") (hs : Nat.ble args.length fn.ntmps = true) (h : AWP P E fn.ntmps c (afin P E fn.results R) (aenv0 args) O) : ACall P E f args O R := fun I F w vs h1 h2 =>
  Fn.intro hf hb hn (by rw [List.size_toArray, h1.length]; exact hs) ((h I F _ w (aenv0_rep h1) h2).mono fun e ρ w ⟨J, env, O, a, b, c, d⟩ => by
    cases e <;> first | exact d.elim | (obtain ⟨v, h3, K, x, O', h4, h5, h6, h7⟩ := d J F ρ w b c; exact ⟨v, h3, K, x, O', a.trans h4, h5, h6, h7⟩))

section
variable {E : World} {P : Program} {env : AEnv} {O : OL} {R : AV → OL → Prop}
theorem afin.of {rs : Array ResultVar} {x : AV} (h : ares E rs env O P x) (hr : R x O) : afin P E rs R .ret env O := fun I F ρ w h1 h2 => by
  obtain ⟨v, h3, h4⟩ := h I F ρ w h1 h2
  exact ⟨v, h3, I, x, O, .refl _, h4, h2, hr⟩
theorem afin.t1 {t : Nat} {x : AV} (hv : env t = x) (h : R x O) : afin P E #[.tmp t] R .ret env O := afin.of (fun I F ρ w h1 _ => ⟨_, by simp [resE], hv ▸ h1 t⟩) h
theorem afin.t0 (h : R (.tup []) O) : afin P E #[] R .ret env O := afin.of (x := .tup []) (fun I F ρ w h1 _ => ⟨.tuple #[], by simp [resE], ⟨[], rfl, rfl⟩⟩) h
theorem afin.t2 {t u : Nat} {x y : AV} (hv : env t = x) (hu : env u = y) (h : R (.tup [x, y]) O) : afin P E #[.tmp t, .tmp u] R .ret env O :=
  afin.of (x := .tup [x, y]) (fun I F ρ w h1 _ => ⟨.tuple #[ρ t, ρ u], by simp [resE], ⟨[ρ t, ρ u], rfl, ⟨_, _, rfl, hv ▸ h1 t, ⟨_, _, rfl, hu ▸ h1 u, rfl⟩⟩⟩⟩) h
theorem afin.t3 {t u s : Nat} {x y z : AV} (hv : env t = x) (hu : env u = y) (hs : env s = z) (h : R (.tup [x, y, z]) O) : afin P E #[.tmp t, .tmp u, .tmp s] R .ret env O :=
  afin.of (x := .tup [x, y, z]) (fun I F ρ w h1 _ => ⟨.tuple #[ρ t, ρ u, ρ s], by simp [resE], ⟨[ρ t, ρ u, ρ s], rfl, ⟨_, _, rfl, hv ▸ h1 t, ⟨_, _, rfl, hu ▸ h1 u, ⟨_, _, rfl, hs ▸ h1 s, rfl⟩⟩⟩⟩⟩) h
theorem afin.c1 {t T i : Nat} {T' : TypeId} {cs : List AV} {n : Nat} (hv : env t = .po i 0) (hO : Has O i (.cells T' cs)) (ha : ∀ w, (isAgg T).run P w = .ok true w) (hs : ∀ w, (sizeOf T).run P w = .ok n w) (hn : cs.length = n) (h : R (.agg cs) O) :
    afin P E #[.cell t T] R .ret env O := afin.of (fun I F ρ w h1 h2 => by
  obtain ⟨L, hL, hS⟩ := h2.2
  have h3 := h1 t
  rw [hv] at h3
  obtain ⟨b, c, e1, e⟩ := h3
  obtain ⟨b', c', vs, e2, h4, hm⟩ := hO.cells hL
  rw [e1] at e2; cases e2
  have hl := run_loadVar_agg (P := P) (w := w) (b := b) (off := 0) ha (cs := vs) (by rw [h4.length, hn]; exact hs) (fun j v hj => by
    rw [Nat.zero_add]
    exact hS.at_ (.inr ⟨_, _, _, List.mem_append_left _ hm, by rw [List.getElem?_toArray]; exact hj⟩))
  exact ⟨.agg vs.toArray, by simp [resE, e, asAddr, hl], ⟨vs, rfl, h4⟩⟩) h
theorem afin.c11 {t T i : Nat} {T' : TypeId} {c : AV} {cs : List AV} (hv : env t = .po i 0) (hO : Has O i (.cells T' (c :: cs))) (ha : ∀ w, (isAgg T).run P w = .ok false w) (h : R c O) :
    afin P E #[.cell t T] R .ret env O := afin.of (fun I F ρ w h1 h2 => by
  obtain ⟨L, hL, hS⟩ := h2.2
  have h3 := h1 t
  rw [hv] at h3
  obtain ⟨b, _, e1, e⟩ := h3
  obtain ⟨b', _, vs, e2, ⟨v, us, e3, h4, _⟩, hm⟩ := hO.cells hL
  subst e3
  rw [e1] at e2; cases e2
  have hl := run_loadVar_one (P := P) (w := w) (b := b) (off := 0) (v := v) ha (hS.at_ (.inr ⟨_, _, _, List.mem_append_left _ hm, by simp⟩))
  exact ⟨v, by simp [resE, e, asAddr, hl], h4⟩) h
/-- What is handed back may be told less closely, and what is owned be given up. -/
theorem afin.imp {rs : Array ResultVar} {R' : AV → OL → Prop} (h : afin P E rs R' .ret env O) (hr : ∀ I F w v x O', R' x O' → RepV I x v → SLA I O' F E w → ∃ J y O'', I.le J ∧ RepV J y v ∧ SLA J O'' F E w ∧ R y O'') : afin P E rs R .ret env O := fun I F ρ w h1 h2 => by
  obtain ⟨v, h3, J, x, O', h4, h5, h6, h7⟩ := h I F ρ w h1 h2
  obtain ⟨K, y, O'', h8, h9, h10, h11⟩ := hr J F w v x O' h7 h5 h6
  exact ⟨v, h3, K, y, O'', h4.trans h8, h9, h10, h11⟩
end

section
variable {E : World} {P : Program} {ops : Array Oper} {K : AEnv → OL → Prop} {env : AEnv} {O O' : OL} {rest : List Oper}
variable {d ty : Nat} {pos : String} {af : Array Edge} {x y z : Operand} {t u e : TypeId}

theorem AOps.boxF {v : AV} {cs : List AV} (hx : aev env x = v) (hv : v.sto = true) (hc : v.cs = cs) (k : AOps P E ops K rest (aupd env d (.pf cs)) O) : AOps P E ops K (Oper.mk (some d) (.box t x) ty pos af none :: rest) env O := fun I F ρ w h1 h2 => by
  obtain ⟨ht, L, hL, hS⟩ := h2
  refine Ops.boxP hS rfl fun b w' J hl hb hS' => ?_
  have h3 := h1.ev x
  rw [hx] at h3
  have h4 := AV.cs_rep h3 hv
  rw [hc] at h4
  let I' : G := ⟨J, I.h⟩
  have hle : I.le I' := ⟨hl, fun _ _ h => h⟩
  refine Ops.mono (fun _ _ => postK.up hle) _ _ _ (k I' F _ w' ((h1.mono hle).upd d ⟨b, 0, _, rfl, RepL.mono hle _ _ h4, fun j u hj => ⟨_, _, _, hb, ?_⟩⟩) ⟨ht, L, hL.mono hle, hS'⟩)
  rw [Nat.zero_add]; simpa using hj

theorem allocd {I : G} {F : List (Nat × Obj)} {E w w' : World} {L : List (Nat × Obj)} {b : Nat} {T : TypeId} {cs : List AV} {vs : List Value} (h2 : SLA I O F E w) (hL : RepOs I O L) (hr : RepL I cs vs) (h1c : ∀ u ∈ vs, u.oneCell' = true)
    (hS : SL I.k ((b, .cells vs.toArray T (0, 0)) :: (L ++ F)) E w') : ∃ i J, I.le J ∧ J.h i = some (some b, 0) ∧ SLA J ((i, .cells T cs) :: O) F E w' := by
  obtain ⟨i, hi⟩ := h2.name
  obtain ⟨J, e1, hle, e2, htop⟩ := hi (some b, 0)
  exact ⟨i, J, hle, e2, htop, _, ⟨_, L, rfl, ⟨b, 0, vs, e2, RepL.mono hle _ _ hr, h1c, rfl⟩, hL.mono hle⟩, by rw [e1]; exact hS⟩

theorem RepL.cell1 {I : G} {cs : List AV} {vs : List Value} (h4 : RepL I cs vs) (hc1 : cs.all AV.cell = true) : ∀ u ∈ vs, u.oneCell' = true := by
  intro u hu
  obtain ⟨j, hj⟩ := List.mem_iff_getElem?.1 hu
  have hlen := h4.length
  have hjl := (List.getElem?_eq_some_iff.1 hj).1
  have hx : cs[j]? = some cs[j] := List.getElem?_eq_getElem (by omega)
  obtain ⟨v', hv', hr'⟩ := h4.get hx
  rw [hj] at hv'; cases hv'
  exact AV.cell_rep hr' (List.all_eq_true.1 hc1 _ (List.getElem_mem _))

theorem AOps.boxO {v : AV} {cs : List AV} (hx : aev env x = v) (hv : v.sto = true) (hc : v.cs = cs) (hc1 : cs.all AV.cell = true) (k : ∀ i, AOps P E ops K rest (aupd env d (.po i 0)) ((i, .cells t cs) :: O)) :
    AOps P E ops K (Oper.mk (some d) (.box t x) ty pos af none :: rest) env O := fun I F ρ w h1 h2 => by
  obtain ⟨L, hL, hS⟩ := h2.2
  refine Ops.boxO hS rfl fun b w' hS' => ?_
  have h3 := h1.ev x
  rw [hx] at h3
  have h4 := AV.cs_rep h3 hv
  rw [hc] at h4
  obtain ⟨i, J, hle, e2, h5⟩ := allocd (O := O) (w' := w') (b := b) (T := t) h2 hL h4 (h4.cell1 hc1) (by simpa using hS')
  exact Ops.mono (fun _ _ => postK.up hle) _ _ _ (k i J F _ w' ((h1.mono hle).upd d ⟨b, 0, e2, rfl⟩) h5)
theorem AOps.alloc {zv : Value} {cs : List AV} (hz : ∀ w, (zeroValue t).run P w = .ok zv w) (hc : zv.cells.toList.map lit = cs) (h1c : zv.cells.toList.all Value.oneCell' = true) (k : ∀ i, AOps P E ops K rest (aupd env d (.po i 0)) ((i, .cells t cs) :: O)) :
    AOps P E ops K (Oper.mk (some d) (.alloc t) ty pos af none :: rest) env O := fun I F ρ w h1 h2 => by
  obtain ⟨L, hL, hS⟩ := h2.2
  refine Ops.alloc hz hS fun b w' hS' => ?_
  obtain ⟨i, J, hle, e2, h5⟩ := allocd (O := O) (w' := w') (b := b) (T := t) h2 hL (hc ▸ lit_reps I zv.cells.toList) (List.all_eq_true.1 h1c) (by simpa using hS')
  exact Ops.mono (fun _ _ => postK.up hle) _ _ _ (k i J F _ w' ((h1.mono hle).upd d ⟨b, 0, e2, rfl⟩) h5)

theorem run_storeAt {b off n : Nat} {vs : List Value} {T : TypeId} {v : Value} {old : List Value} {w : World} (hs : ∀ w, (sizeOf t).run P w = .ok n w) (hvc : v.cells = vs.toArray) (hn : vs.length = n) (h1c : ∀ u ∈ vs, u.oneCell' = true) (hb : off + n ≤ old.length)
    (hown : w.heap[b]? = some (.cells old.toArray T (0, 0))) : (Instr.storeAt t (.pointer (some ⟨b, off, none⟩)) v).run P w = .ok () (w.setRow b (old.take off ++ vs ++ old.drop (off + n)).toArray) := by
  have hst : (storeCells (⟨b, off, none⟩ : Addr) vs 0).run P w = .ok () (w.setRow b (old.take off ++ vs ++ old.drop (off + n)).toArray) := by
    rw [run_storeCells_at (P := P) b off T vs 0 old.toArray w hown (by simp; omega) h1c]
    simp [hn]
  have hvs : v.cells.size = n := by rw [hvc]; simpa using hn
  simp [Instr.storeAt, Instr.sureAddr, storeVar, hs, hvc, hn, hst]

theorem SL.turn1 {I : Ghost} {L : List (Nat × Obj)} {E w : World} {b : Nat} {old new : List Value} {T : TypeId} (h : SL I ((b, .cells old.toArray T (0, 0)) :: L) E w) : SL I ((b, .cells new.toArray T (0, 0)) :: L) E (w.setRow b new.toArray) := by
  have hown := h.own _ (.head _)
  simp only at hown
  refine h.turn rfl rfl rfl ?_ ?_
  · simp [World.setRow, Array.getElem?_modify, hown]
  · intro k hk
    simp only [World.setRow, Array.getElem?_modify]
    rw [if_neg (by omega)]

/-- A store into what is owned. -/
theorem AOps.storeC {i off n : Nat} {T : TypeId} {v : AV} {cs l new : List AV} (hs : ∀ w, (sizeOf t).run P w = .ok n w) (hx : aev env x = .po i off) (hy : aev env y = v) (hv : v.sto = true) (hl : v.cs = l) (hl1 : l.all AV.cell = true) (hn : l.length = n)
    (hO : Put O i (.cells T cs) (.cells T new) O') (hb : Nat.ble (off + n) cs.length = true) (hnew : cs.take off ++ l ++ cs.drop (off + n) = new) (k : AOps P E ops K rest env O') : AOps P E ops K (Oper.mk none (.store t x y) ty pos af none :: rest) env O := fun I F ρ w h1 h2 => by
  obtain ⟨htop, L, hL, hS⟩ := h2
  have h3 := h1.ev x
  rw [hx] at h3
  obtain ⟨b, c, e1, e⟩ := h3
  have h4 := h1.ev y
  rw [hy] at h4
  have h5 := AV.cs_rep h4 hv
  rw [hl] at h5
  obtain ⟨A, B, hp, ⟨b', c', vs, e2, h6, h6c, rfl⟩, hback⟩ := hO.rep hL
  rw [e1] at e2; cases e2
  have hS2 : SL I.k ((b, .cells vs.toArray T (0, 0)) :: (B ++ F)) E w := hS.perm ((hp.append_right F).symm)
  have hb := Nat.le_of_ble_eq_true hb
  have hrun := run_storeAt (P := P) (t := t) (b := b) (off := off) (v := ev ρ y) (vs := (ev ρ y).cells.toList) (old := vs) (w := w) hs (by simp) (by rw [h5.length, hn]) (h5.cell1 hl1) (by rw [h6.length]; exact hb) (hS2.own _ (.head _))
  refine Ops.step rfl ?_
  unfold OpW
  have : (execOp (ev ρ) (Oper.mk none (.store t x y) ty pos af none)).run P w = .ok .skip (w.setRow b (vs.take off ++ (ev ρ y).cells.toList ++ vs.drop (off + n)).toArray) := by
    simp only [execOp, e]
    rw [Sem.run_bind, hrun]; rfl
  rw [this]
  have hnr : RepL I new (vs.take off ++ (ev ρ y).cells.toList ++ vs.drop (off + n)) := hnew ▸ ((h6.take off).append h5).append (h6.drop (off + n))
  obtain ⟨L', h7, h8⟩ := hback (G.le.refl I) (A' := [(b, .cells (vs.take off ++ (ev ρ y).cells.toList ++ vs.drop (off + n)).toArray T (0, 0))]) ⟨b, c, _, e1, hnr, by
    intro u hu
    simp only [List.mem_append] at hu
    rcases hu with (hu | hu) | hu
    · exact h6c u (List.mem_of_mem_take hu)
    · exact h5.cell1 hl1 u hu
    · exact h6c u (List.mem_of_mem_drop hu), rfl⟩
  exact k I F ρ _ h1 ⟨htop, L', h7, (hS2.turn1).perm (h8.append_right F)⟩
end
end Go.Proofs.YtlfhoiakmbcnlaaDoor
