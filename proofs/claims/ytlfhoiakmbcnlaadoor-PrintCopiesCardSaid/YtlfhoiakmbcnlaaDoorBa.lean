/- Growing, calling, knowing henceforth. No conditions but bounds. -/
import Derived.Test.YtlfhoiakmbcnlaaDoorAz
namespace Go.Proofs.YtlfhoiakmbcnlaaDoor

theorem RepR.flat {I : G} {k : Nat} {a : Option Addr} : ∀ {rows : List (List AV)} {j : Nat}, RepR I k a j rows → rows ≠ [] → ∃ b off vs, a = some ⟨b, off, none⟩ ∧ RepL I rows.flatten vs ∧ vs.length = rows.length * k ∧ ∀ (i : Nat) u, vs[i]? = some u → KAt I.k b (off + j * k + i) u
  | [], _, _, h => absurd rfl h
  | [r], j, ⟨⟨b, off, vs, e, h1, h2, h3⟩, _⟩, _ => ⟨b, off, vs, e, by simpa using h2, by simpa using h1, h3⟩
  | r :: r' :: rows, j, ⟨⟨b, off, vs, e, h1, h2, h3⟩, h4⟩, _ => by
    obtain ⟨b', off', us, e', h5, h6, h7⟩ := RepR.flat h4 (by simp)
    subst e
    cases e'
    refine ⟨b, off, vs ++ us, rfl, by simpa using h2.append h5, by simp only [List.length_append, h1, h6, List.length_cons, Nat.add_mul]; omega, fun i u hu => ?_⟩
    by_cases hi : i < vs.length
    · rw [List.getElem?_append_left hi] at hu; exact h3 i u hu
    · rw [List.getElem?_append_right (by omega)] at hu
      have := h7 _ u hu
      have e : off + (j + 1) * k + (i - vs.length) = off + j * k + i := by rw [Nat.add_mul, h1]; omega
      rwa [e] at this

theorem fro_src {I : G} {k : Nat} {rows : List (List AV)} {v : Value} (h : RepV I (.fro k rows) v) (hc : rows.flatten.all AV.cell = true) : ∃ a n c vs, v = .slice a n c ∧ n = rows.length ∧ RepL I rows.flatten vs ∧ (∀ u ∈ vs, u.oneCell' = true) ∧ ∀ O, Src I.k O k a n vs := by
  obtain ⟨a, n, c, e, hn, hnc, hnil, hr⟩ := h
  cases rows with
  | nil =>
    refine ⟨a, n, c, [], e, hn, rfl, by simp, fun O => ⟨by simp [hn], by simp, ?_⟩⟩
    cases a with
    | none => exact .inl ⟨rfl, hn⟩
    | some p => exact .inr ⟨p, rfl, by simp⟩
  | cons r rows =>
    obtain ⟨b, off, vs, e', h1, h2, h3⟩ := hr.flat (by simp)
    refine ⟨a, n, c, vs, e, hn, h1, h1.cell1 hc, fun O => ⟨by rw [h2, hn], h1.cell1 hc, .inr ⟨_, e', fun j u hj => ⟨b, off, rfl, ?_⟩⟩⟩⟩
    have := h3 j u hj
    rw [Nat.zero_mul, Nat.add_zero] at this
    exact .inl this

section
variable {E : World} {P : Program} {ops : Array Oper} {K : AEnv → OL → Prop} {env : AEnv} {O O' : OL} {rest : List Oper}
variable {d ty : Nat} {pos : String} {af : Array Edge} {x y z : Operand} {t u e : TypeId}

theorem AOps.append {ti : TypeInfo} {zv : Value} {k n i : Nat} {cs : List AV} {rows : List (List AV)} (ht : P.underlying t = some (.slice e)) (hi : P.info? e = some ti) (hz : ti.zero = some zv) (hk : ti.size = k) (hzc : zv.cells.size = k)
    (hx : aev env x = .own i n) (hO : Pick O i (.grow k e cs) O') (hn : cs.length = n * k) (hk0 : 0 < k) (hy : aev env y = .fro k rows) (hc1 : rows.flatten.all AV.cell = true) (hb : (n + rows.length) * ti.bytes ≤ 140737488355328) (hb2 : n + rows.length ≤ 140737488355328)
    (kk : ∀ j, AOps P E ops K rest (aupd env d (.own j (n + rows.length))) ((j, .grow k e (cs ++ rows.flatten)) :: O')) :
    AOps P E ops K (Oper.mk (some d) (.call { callee := .builtin .append, args := #[x, y], argTypes := #[t, t] }) ty pos af none :: rest) env O := fun I F ρ w h1 h2 => by
  obtain ⟨htop, L, hL, hS⟩ := id h2
  have h3 := h1.ev x
  rw [hx] at h3
  obtain ⟨b, cap, e1, ex⟩ := h3
  have h4 := h1.ev y
  rw [hy] at h4
  obtain ⟨sa, m, sc, vs, ey, hm, hvs, hvc, hsrc⟩ := fro_src h4 hc1
  obtain ⟨A, B, hp, ⟨b', cap', n', us, e2, hus, huc, hown⟩, hB⟩ := hO.rep hL
  simp only at e2
  rw [e1] at e2
  simp only [Option.some.injEq, Prod.mk.injEq] at e2
  obtain ⟨rfl, rfl⟩ := e2
  have hnn : n' = n := by
    have h5 := hown.1
    have h6 := hus.length
    have : n' * k = n * k := by omega
    exact Nat.eq_of_mul_eq_mul_right hk0 this
  subst hnn
  subst hm
  have hS2 : SL I.k (A ++ (B ++ F)) E w := hS.perm (by rw [← List.append_assoc]; exact (hp.append_right F).symm)
  refine Ops.append ht hi hz hk hzc ex ey hS2 hown (hsrc _) hb hb2 fun a' c' A' w' h5 h6 h7 => ?_
  obtain ⟨j, hj⟩ := h2.name
  have hb' : ∃ b'', a' = adr b'' := by
    rcases h5.2.2 with ⟨e, _⟩ | ⟨b'', junk, e, _⟩
    · exact ⟨none, e⟩
    · exact ⟨some b'', e⟩
  obtain ⟨b'', rfl⟩ := hb'
  obtain ⟨J, ek, hle, e3, htop'⟩ := hj (b'', c')
  refine Ops.mono (fun _ _ => postK.up hle) _ _ _ (kk j J F _ _ ((h1.mono hle).upd d ⟨b'', c', e3, rfl⟩) ⟨htop', A' ++ B, ⟨A', B, rfl, ⟨b'', c', _, us ++ vs, e3, RepL.mono hle _ _ (hus.append hvs), ?_, h5⟩, hB.mono hle⟩, by rw [ek, List.append_assoc]; exact h6⟩)
  intro u hu
  rcases List.mem_append.1 hu with hu | hu
  · exact huc u hu
  · exact hvc u hu

/-! ### Calls -/
theorem SLA.split {I : G} {O1 O2 : OL} {F : List (Nat × Obj)} {E w : World} (hO : O.Perm (O1 ++ O2)) (h : SLA I O F E w) : ∃ L2, RepOs I O2 L2 ∧ SLA I O1 (L2 ++ F) E w := by
  obtain ⟨ht, L, hL, hS⟩ := h
  obtain ⟨L', h1, h2⟩ := hL.perm hO
  obtain ⟨A, B, rfl, h3, h4⟩ := RepOs.append.1 h1
  exact ⟨B, h4, ht, A, h3, hS.perm (by rw [← List.append_assoc]; exact (h2.append_right F).symm)⟩
theorem SLA.join {I J : G} {O1 O2 : OL} {L2 F : List (Nat × Obj)} {E w : World} (hle : I.le J) (h2 : RepOs I O2 L2) (h : SLA J O1 (L2 ++ F) E w) : SLA J (O1 ++ O2) F E w := by
  obtain ⟨ht, L, hL, hS⟩ := h
  exact ⟨ht, L ++ L2, RepOs.append.2 ⟨L, L2, rfl, hL, h2.mono hle⟩, by rw [List.append_assoc]; exact hS⟩
theorem SLA.drops {I : G} {O1 : OL} {L2 F : List (Nat × Obj)} {E w : World} (h : SLA I O1 (L2 ++ F) E w) : SL I.k (L2 ++ F) E w := by
  obtain ⟨ht, L, hL, hS⟩ := h
  exact hS.dropAll

theorem AOps.callA {f : FuncId} {args : List Operand} {tys : Array TypeId} {as : List AV} {O1 O2 : OL} {R : AV → OL → Prop} (ha : args.map (aev env) = as) (hO : O.Perm (O1 ++ O2)) (hc : ACall P E f as O1 R)
    (k : ∀ r O1', R r O1' → AOps P E ops K rest (aupd env d r) (O1' ++ O2)) : AOps P E ops K (Oper.mk (some d) (.call { callee := .value (.func f), args := args.toArray, argTypes := tys }) ty pos af none :: rest) env O := fun I F ρ w h1 h2 => by
  obtain ⟨L2, hL2, h3⟩ := h2.split hO
  refine Ops.callF (hc I (L2 ++ F) w (args.map (ev ρ)) (ha ▸ h1.evs args) h3) ?_
  rintro v w' ⟨J, r, O1', hle, hr, hS, hR⟩
  exact Ops.mono (fun _ _ => postK.up hle) _ _ _ (k r O1' hR J F _ _ ((h1.mono hle).upd d hr) (hS.join hle hL2))
theorem AOps.callP {f : FuncId} {args : List Operand} {tys : Array TypeId} {as : List AV} {r : AV} (hc : AFun P E f as r) (ha : args.map (aev env) = as)
    (k : AOps P E ops K rest (aupd env d r) O) : AOps P E ops K (Oper.mk (some d) (.call { callee := .value (.func f), args := args.toArray, argTypes := tys }) ty pos af none :: rest) env O := fun I F ρ w h1 h2 => by
  obtain ⟨L2, hL2, h3⟩ := h2.split (O1 := []) (O2 := O) (.refl _)
  refine Ops.callF (hc I (L2 ++ F) w (args.map (ev ρ)) (ha ▸ h1.evs args) h3) ?_
  rintro v w' ⟨J, r', O1', hle, hr, hS, rfl⟩
  exact Ops.mono (fun _ _ => postK.up hle) _ _ _ (k J F _ _ ((h1.mono hle).upd d hr) ⟨hS.1, L2, hL2.mono hle, hS.drops⟩)

theorem fn_rep {I : G} {f : FuncId} {a c : List AV} {v : Value} (h : RepV I (.fn f a c) v) : ∃ vs us, v = .func (.func f) vs.toArray us.toArray ∧ RepL I a vs ∧ RepL I c us := h
theorem AOps.callVA {f : FuncId} {args : List Operand} {tys : Array TypeId} {a c as : List AV} {O1 O2 : OL} {R : AV → OL → Prop} (hx : aev env x = .fn f a c) (ha : a ++ args.map (aev env) ++ c = as) (hO : O.Perm (O1 ++ O2)) (hc : ACall P E f as O1 R)
    (k : ∀ r O1', R r O1' → AOps P E ops K rest (aupd env d r) (O1' ++ O2)) : AOps P E ops K (Oper.mk (some d) (.call { callee := .value x, args := args.toArray, argTypes := tys }) ty pos af none :: rest) env O := fun I F ρ w h1 h2 => by
  obtain ⟨L2, hL2, h3⟩ := h2.split hO
  have h4 := h1.ev x
  rw [hx] at h4
  obtain ⟨vs, us, e, h5, h6⟩ := h4
  refine Ops.callV e (hc I (L2 ++ F) w (vs ++ args.map (ev ρ) ++ us) (ha ▸ (h5.append (h1.evs args)).append h6) h3) ?_
  rintro v w' ⟨J, r, O1', hle, hr, hS, hR⟩
  exact Ops.mono (fun _ _ => postK.up hle) _ _ _ (k r O1' hR J F _ _ ((h1.mono hle).upd d hr) (hS.join hle hL2))
theorem AOps.callVP {f : FuncId} {args : List Operand} {tys : Array TypeId} {a c as : List AV} {r : AV} (hx : aev env x = .fn f a c) (hc : AFun P E f as r) (ha : a ++ args.map (aev env) ++ c = as)
    (k : AOps P E ops K rest (aupd env d r) O) : AOps P E ops K (Oper.mk (some d) (.call { callee := .value x, args := args.toArray, argTypes := tys }) ty pos af none :: rest) env O := fun I F ρ w h1 h2 => by
  obtain ⟨L2, hL2, h3⟩ := h2.split (O1 := []) (O2 := O) (.refl _)
  have h4 := h1.ev x
  rw [hx] at h4
  obtain ⟨vs, us, e, h5, h6⟩ := h4
  refine Ops.callV e (hc I (L2 ++ F) w (vs ++ args.map (ev ρ) ++ us) (ha ▸ (h5.append (h1.evs args)).append h6) h3) ?_
  rintro v w' ⟨J, r', O1', hle, hr, hS, rfl⟩
  exact Ops.mono (fun _ _ => postK.up hle) _ _ _ (k J F _ _ ((h1.mono hle).upd d hr) ⟨hS.1, L2, hL2.mono hle, hS.drops⟩)

theorem Gv.func {f : FuncId} {l m : List Operand} {a c : List AV} (hl : l.map (aev env) = a) (hm : m.map (aev env) = c) : Gv P env O (Oper.mk (some d) (.makeFunc (.func f) l.toArray m.toArray) ty pos af none) (.fn f a c) := Gv.ofEv fun I ρ h =>
  ⟨.func (.func f) (l.map (ev ρ)).toArray (m.map (ev ρ)).toArray, ⟨_, _, rfl, hl ▸ h.evs l, hm ▸ h.evs m⟩, fun w => by simp [execOp, Instr.makeFunc]⟩

/-! ### Steps of thought: nothing is done, more is told -/
def GStep (E : World) (env : AEnv) (O : OL) (env' : AEnv) (O' : OL) : Prop := ∀ I F ρ w, RepE I env ρ → SLA I O F E w → ∃ J, I.le J ∧ RepE J env' ρ ∧ SLA J O' F E w
end
section
variable {E : World} {P : Program} {n : Nat} {os : Array Oper} {env env' : AEnv} {O O' : OL}
theorem GStep.wp {c : Code} {Q : Exit → AEnv → OL → Prop} (g : GStep E env O env' O') (h : AWP P E n c Q env' O') : AWP P E n c Q env O := fun I F ρ w h1 h2 => by
  obtain ⟨J, hle, h3, h4⟩ := g I F ρ w h1 h2
  exact (h J F ρ w h3 h4).mono fun _ _ _ => postE.up hle
theorem GStep.ops {K : AEnv → OL → Prop} {l : List Oper} (g : GStep E env O env' O') (h : AOps P E os K l env' O') : AOps P E os K l env O := fun I F ρ w h1 h2 => by
  obtain ⟨J, hle, h3, h4⟩ := g I F ρ w h1 h2
  exact Ops.mono (fun _ _ => postK.up hle) _ _ _ (h J F ρ w h3 h4)
theorem GStep.fin {rs : Array ResultVar} {R : AV → OL → Prop} (g : GStep E env O env' O') (h : afin P E rs R .ret env' O') : afin P E rs R .ret env O := fun I F ρ w h1 h2 => by
  obtain ⟨J, hle, h3, h4⟩ := g I F ρ w h1 h2
  obtain ⟨v, h5, K, x, O'', h6, h7⟩ := h J F ρ w h3 h4
  exact ⟨v, h5, K, x, O'', hle.trans h6, h7⟩

theorem GStep.perm (h : O.Perm O') : GStep E env O env O' := fun I F ρ w h1 h2 => by
  obtain ⟨L2, hL2, h3⟩ := h2.split (O1 := O') (O2 := []) (by simpa using h)
  have : L2 = [] := hL2
  subst this
  exact ⟨I, .refl _, h1, h3⟩
theorem GStep.drop {i : Nat} {o : AObj} (h : Pick O i o O') : GStep E env O env O' := fun I F ρ w h1 h2 => by
  obtain ⟨ht, L, hL, hS⟩ := h2
  obtain ⟨A, B, hp, _, hB⟩ := h.rep hL
  exact ⟨I, .refl _, h1, ht, B, hB, (hS.perm (by rw [← List.append_assoc]; exact (hp.append_right F).symm) : SL I.k (A ++ (B ++ F)) E w).dropAll⟩
theorem GStep.slot {t : Nat} {x y : AV} (hv : env t = x) (hi : ∀ I v, RepV I x v → RepV I y v) : GStep E env O (aupd env t y) O := fun I F ρ w h1 h2 => by
  refine ⟨I, .refl _, fun s => ?_, h2⟩
  unfold aupd
  cases hb : Nat.beq s t with
  | false => exact h1 s
  | true =>
    have : s = t := Nat.eq_of_beq_eq_true hb
    subst this
    exact hi I _ (hv ▸ h1 s)

/-- A nil slice gets a name. -/
theorem GStep.adopt {t k : Nat} {T : TypeId} (hv : env t = .raw (.slice none 0 0)) {Q : Prop} (h : ∀ i, GStep E (aupd env t (.own i 0)) ((i, .grow k T []) :: O) env' O' ) : GStep E env O env' O' := fun I F ρ w h1 h2 => by
  obtain ⟨i, hi⟩ := h2.name
  obtain ⟨J, e1, hle, e2, htop⟩ := hi (none, 0)
  obtain ⟨_, L, hL, hS⟩ := h2
  have h3 : ρ t = .slice none 0 0 := by have := h1 t; rw [hv] at this; exact this
  obtain ⟨K, h4, h5, h6⟩ := h i J F ρ w (fun s => by
    unfold aupd
    cases hb : Nat.beq s t with
    | false => exact RepV.mono hle _ _ (h1 s)
    | true =>
      have : s = t := Nat.eq_of_beq_eq_true hb
      subst this
      exact ⟨none, 0, e2, h3⟩) ⟨htop, _, ⟨[], L, rfl, ⟨none, 0, 0, [], e2, rfl, by simp, OwnS.nil k T⟩, hL.mono hle⟩, by rw [e1]; exact hS⟩
  exact ⟨K, hle.trans h4, h5, h6⟩
end
section
variable {E : World} {P : Program} {n : Nat} {ops : Array Oper} {env : AEnv} {O O' : OL}

theorem adopt_wp {c : Code} {Q : Exit → AEnv → OL → Prop} {t k : Nat} {T : TypeId} (hv : env t = .raw (.slice none 0 0)) (h : ∀ i, AWP P E n c Q (aupd env t (.own i 0)) ((i, .grow k T []) :: O)) : AWP P E n c Q env O := fun I F ρ w h1 h2 => by
  obtain ⟨i, hi⟩ := h2.name
  obtain ⟨J, e1, hle, e2, htop⟩ := hi (none, 0)
  obtain ⟨_, L, hL, hS⟩ := h2
  have h3 : ρ t = .slice none 0 0 := by have := h1 t; rw [hv] at this; exact this
  refine (h i J F ρ w (fun s => ?_) ⟨htop, _, ⟨[], L, rfl, ⟨none, 0, 0, [], e2, rfl, by simp, OwnS.nil k T⟩, hL.mono hle⟩, by rw [e1]; exact hS⟩).mono fun _ _ _ => postE.up hle
  unfold aupd
  cases hb : Nat.beq s t with
  | false => exact RepV.mono hle _ _ (h1 s)
  | true =>
    have : s = t := Nat.eq_of_beq_eq_true hb
    subst this
    exact ⟨none, 0, e2, h3⟩

/-- What is owned may be known for ever from now on. -/
theorem know {I : G} {F : List (Nat × Obj)} {E w : World} {i k m : Nat} {T : TypeId} {rows : List (List AV)} (hO : Pick O i (.grow k T rows.flatten) O') (hk : ∀ r ∈ rows, r.length = k) (hk0 : 0 < k) (hm : rows.length = m) (h : SLA I O F E w) :
    ∃ J, I.le J ∧ SLA J O' F E w ∧ ∀ v, RepV I (.own i m) v → RepV J (.fro k rows) v := by
  obtain ⟨ht, L, hL, hS⟩ := h
  obtain ⟨A, B, hp, ⟨b, c, n, vs, e1, hvs, hvc, hown⟩, hB⟩ := hO.rep hL
  simp only at e1
  have hS2 : SL I.k (A ++ (B ++ F)) E w := hS.perm (by rw [← List.append_assoc]; exact (hp.append_right F).symm)
  have hflat : rows.flatten.length = rows.length * k := by
    clear hO hvs hm
    induction rows with
    | nil => simp
    | cons r rows ih => simp only [List.flatten_cons, List.length_append, List.length_cons, ih (fun r h => hk r (by simp [h])), hk r (by simp), Nat.add_mul]; omega
  have hnm : n = m := by
    have h5 := hown.1
    have h6 := hvs.length
    have : n * k = m * k := by rw [← hm]; omega
    exact Nat.eq_of_mul_eq_mul_right hk0 this
  subst hnm
  obtain ⟨h5, h6, h7⟩ := hown
  rcases h7 with ⟨ea, rfl, rfl⟩ | ⟨b', junk, ea, rfl, hj⟩
  · refine ⟨I, .refl _, ⟨ht, B, hB, by simpa using hS2⟩, ?_⟩
    rintro v ⟨b2, c2, e2, rfl⟩
    rw [e1] at e2
    simp only [Option.some.injEq, Prod.mk.injEq] at e2
    obtain ⟨rfl, rfl⟩ := e2
    have h0 : rows = [] := List.eq_nil_of_length_eq_zero (by omega)
    subst h0
    exact ⟨adr b, n, 0, rfl, hm.symm, h6, fun _ => rfl, trivial⟩
  · cases b with
    | none => simp [adr] at ea
    | some b =>
      simp [adr] at ea
      subst ea
      obtain ⟨hl, hS3⟩ := SL.freeze (by simpa using hS2 : SL I.k ((b, .cells (vs ++ junk).toArray T (0, 0)) :: (B ++ F)) E w)
      let J : G := ⟨I.k.put b (.cells (vs ++ junk).toArray T (0, 0)), I.h⟩
      have hle : I.le J := ⟨hl, fun _ _ h => h⟩
      have hb : J.k b = some (.cells (vs ++ junk).toArray T (0, 0)) := Ghost.put_same _ _ _
      refine ⟨J, hle, ⟨ht, B, hB.mono hle, hS3⟩, ?_⟩
      rintro v ⟨b2, c2, e2, rfl⟩
      rw [e1] at e2
      simp only [Option.some.injEq, Prod.mk.injEq] at e2
      obtain ⟨rfl, rfl⟩ := e2
      refine ⟨adr (some b), n, c, rfl, hm.symm, h6, fun h => by simp [adr] at h, RepR.of_flat hb rows vs 0 hk (RepL.mono hle _ _ hvs) fun i u hu => ?_⟩
      rw [Nat.zero_mul, Nat.zero_add, List.getElem?_toArray, List.getElem?_append_left (List.getElem?_eq_some_iff.1 hu).1]
      exact hu

theorem GStep.know {t i k m : Nat} {T : TypeId} {rows : List (List AV)} (hv : env t = .own i m) (hO : Pick O i (.grow k T rows.flatten) O') (hk : ∀ r ∈ rows, r.length = k) (hk0 : 0 < k) (hm : rows.length = m) : GStep E env O (aupd env t (.fro k rows)) O' := fun I F ρ w h1 h2 => by
  obtain ⟨J, hle, h3, h4⟩ := Go.Proofs.YtlfhoiakmbcnlaaDoor.know hO hk hk0 hm h2
  refine ⟨J, hle, fun s => ?_, h3⟩
  unfold aupd
  cases hb : Nat.beq s t with
  | false => exact RepV.mono hle _ _ (h1 s)
  | true =>
    have : s = t := Nat.eq_of_beq_eq_true hb
    subst this
    exact h4 _ (hv ▸ h1 s)
end
end Go.Proofs.YtlfhoiakmbcnlaaDoor
