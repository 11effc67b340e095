/- Arrays told whole; rows of a list. No conditions. -/
import Derived.Test.YtlfhoiakmbcnlaaDoorBc
namespace Go.Proofs.YtlfhoiakmbcnlaaDoor

theorem fill_full {k : Nat} : ∀ (xs : List (List AV)) (i : Nat) (pre zs : List AV), (∀ x ∈ xs, x.length = k) → zs.length = xs.length * k → pre.length = i * k →
    fillL (fun i => some (i * k, k)) (pre ++ zs) ((xs.zipIdx i).map fun p => (p.2, p.1)) = some (pre ++ xs.flatten)
  | [], i, pre, zs, _, h, _ => by simp at h; subst h; simp [fillL]
  | x :: xs, i, pre, zs, hk, h, hp => by
    have hx := hk x (by simp)
    have e1 : Nat.beq x.length k = true := by rw [hx]; exact Nat.beq_refl k
    have e2 : Nat.ble (i * k + k) (pre ++ zs).length = true := by
      rw [Nat.ble_eq, List.length_append, hp, h, List.length_cons, Nat.add_mul]; omega
    simp only [List.zipIdx_cons, List.map_cons, fillL, e1, e2, Bool.and_self, cond_true]
    have h1 : (pre ++ zs).take (i * k) = pre := by rw [← hp]; simp
    have h2 : (pre ++ zs).drop (i * k + k) = zs.drop k := by rw [← hp, List.drop_append]; simp
    rw [h1, h2, ← List.append_assoc]
    rw [fill_full xs (i + 1) (pre ++ x) (zs.drop k) (fun y hy => hk y (by simp [hy])) (by rw [List.length_drop, h, List.length_cons, Nat.add_mul]; omega) (by rw [List.length_append, hp, hx, Nat.add_mul]; omega)]
    simp

theorem flat_at {α : Type} {enc : α → List AV} {k : Nat} (hk : ∀ x, (enc x).length = k) : ∀ (l : List α) (j : Nat) {x : α}, l[j]? = some x → ((l.flatMap enc).drop (j * k)).take k = enc x
  | [], j, x, h => by simp at h
  | y :: l, 0, x, h => by simp at h; subst h; simp [List.take_append_of_le_length, hk]
  | y :: l, j + 1, x, h => by
    simp only [List.getElem?_cons_succ] at h
    rw [← flat_at hk l j h, List.flatMap_cons, Nat.add_mul, Nat.one_mul, Nat.add_comm, ← List.drop_drop]
    congr 2
    rw [← hk y]; simp

section
variable {E : World} {P : Program} {env : AEnv} {O : OL} {d ty : Nat} {pos : String} {af : Array Edge} {t : TypeId}
theorem Gv.buildAF {k : Nat} {zs : List AV} {xs : List (List AV)} {l : List (Nat × Operand)} (hpl : PlacesA P t k zs) (hs : l.all (fun p => (aev env p.2).sto) = true) (hv : l.map (fun p => (p.1, (aev env p.2).cs)) = (xs.zipIdx 0).map fun p => (p.2, p.1))
    (hk : xs.all (fun x => Nat.beq x.length k) = true) (hz : zs.length = xs.length * k) : Gv P env O (Oper.mk (some d) (.build t l.toArray) ty pos af none) (.agg xs.flatten) :=
  Gv.buildA hpl hs hv (by
    have := fill_full xs 0 [] zs (fun x hx => Nat.eq_of_beq_eq_true (List.all_eq_true.1 hk x hx)) hz (by simp)
    simpa using this)
end

/-- `x` stands in `O`; with another name and another thing in its place it is `O'`. -/
inductive Swp : OL → Nat → AObj → Nat → AObj → OL → Prop
  | head {i o j o' O} : Swp ((i, o) :: O) i o j o' ((j, o') :: O)
  | tail {x O i o j o' O'} : Swp O i o j o' O' → Swp (x :: O) i o j o' (x :: O')
theorem Swp.rep {I : G} {O O' : OL} {i j : Nat} {o o' : AObj} (h : Swp O i o j o' O') : ∀ {L}, RepOs I O L → ∃ A B, L.Perm (A ++ B) ∧ RepO I (i, o) A ∧
    ∀ {J : G} {A'}, I.le J → RepO J (j, o') A' → ∃ L', RepOs J O' L' ∧ L'.Perm (A' ++ B) := by
  induction h with
  | head => rintro L ⟨A, B, e, h1, h2⟩; exact ⟨A, B, e ▸ .refl _, h1, fun {J A'} hl h => ⟨A' ++ B, ⟨A', B, rfl, h, h2.mono hl⟩, .refl _⟩⟩
  | tail h ih =>
    rintro L ⟨A, B, e, h1, h2⟩
    obtain ⟨C, D, hp, h3, h4⟩ := ih h2
    refine ⟨C, A ++ D, ?_, h3, fun {J A'} hl h => ?_⟩
    · subst e
      refine (hp.append_left A).trans ?_
      rw [← List.append_assoc, ← List.append_assoc]
      exact List.perm_append_comm.append_right D
    · obtain ⟨L', h5, h6⟩ := h4 hl h
      refine ⟨A ++ L', ⟨A, L', rfl, h1.mono hl, h5⟩, ?_⟩
      refine (h6.append_left A).trans ?_
      rw [← List.append_assoc, ← List.append_assoc]
      exact List.perm_append_comm.append_right D

section
variable {E : World} {P : Program} {ops : Array Oper} {K : AEnv → OL → Prop} {env : AEnv} {O O' : OL} {rest : List Oper}
variable {d ty : Nat} {pos : String} {af : Array Edge} {x y z : Operand} {t u e : TypeId}
theorem AOps.appendS {ti : TypeInfo} {zv : Value} {k n i : Nat} {cs : List AV} {rows : List (List AV)} {f : Nat → OL} (ht : P.underlying t = some (.slice e)) (hi : P.info? e = some ti) (hz : ti.zero = some zv) (hk : ti.size = k) (hzc : zv.cells.size = k)
    (hx : aev env x = .own i n) (hy : aev env y = .fro k rows) (hO : ∀ j, Swp O i (.grow k e cs) j (.grow k e (cs ++ rows.flatten)) (f j)) (hn : cs.length = n * k) (hk0 : 0 < k) (hc1 : rows.flatten.all AV.cell = true) (hb : (n + rows.length) * ti.bytes ≤ 140737488355328) (hb2 : n + rows.length ≤ 140737488355328)
    (kk : ∀ j, AOps P E ops K rest (aupd env d (.own j (n + rows.length))) (f j)) :
    AOps P E ops K (Oper.mk (some d) (.call { callee := .builtin .append, args := #[x, y], argTypes := #[t, t] }) ty pos af none :: rest) env O := fun I F ρ w h1 h2 => by
  obtain ⟨htop, L, hL, hS⟩ := id h2
  have h3 := h1.ev x
  rw [hx] at h3
  obtain ⟨b, cap, e1, ex⟩ := h3
  have h4 := h1.ev y
  rw [hy] at h4
  obtain ⟨sa, m, sc, vs, ey, hm, hvs, hvc, hsrc⟩ := fro_src h4 hc1
  obtain ⟨j, hj⟩ := h2.name
  obtain ⟨A, B, hp, ⟨b', cap', n', us, e2, hus, huc, hown⟩, hback⟩ := (hO j).rep hL
  simp only at e2
  rw [e1] at e2
  simp only [Option.some.injEq, Prod.mk.injEq] at e2
  obtain ⟨rfl, rfl⟩ := e2
  have hnn : n' = n := by
    have h5 := hown.1
    have h6 := hus.length
    have : n' * k = n * k := by omega
    exact Nat.eq_of_mul_eq_mul_right hk0 this
  subst hnn
  subst hm
  have hS2 : SL I.k (A ++ (B ++ F)) E w := hS.perm (by rw [← List.append_assoc]; exact (hp.append_right F).symm)
  refine Ops.append ht hi hz hk hzc ex ey hS2 hown (hsrc _) hb hb2 fun a' c' A' w' h5 h6 h7 => ?_
  have hb' : ∃ b'', a' = adr b'' := by
    rcases h5.2.2 with ⟨e, _⟩ | ⟨b'', junk, e, _⟩
    · exact ⟨none, e⟩
    · exact ⟨some b'', e⟩
  obtain ⟨b'', rfl⟩ := hb'
  obtain ⟨J, ek, hle, e3, htop'⟩ := hj (b'', c')
  obtain ⟨L', h8, h9⟩ := hback hle (A' := A') ⟨b'', c', _, us ++ vs, e3, RepL.mono hle _ _ (hus.append hvs), (by
    intro u hu
    rcases List.mem_append.1 hu with hu | hu
    · exact huc u hu
    · exact hvc u hu), h5⟩
  exact Ops.mono (fun _ _ => postK.up hle) _ _ _ (kk j J F _ _ ((h1.mono hle).upd d ⟨b'', c', e3, rfl⟩) ⟨htop', L', h8, by rw [ek]; exact h6.perm (by rw [← List.append_assoc]; exact h9.append_right F)⟩)
end

theorem grow_push {α : Type} {enc : α → List AV} {xs ys : List α} {x : α} (h : ys = xs ++ [x]) : (xs.map enc).flatten ++ [enc x].flatten = (ys.map enc).flatten := by subst h; simp
theorem grow_len {α : Type} {enc : α → List AV} {k : Nat} (hk : ∀ x, (enc x).length = k) (xs : List α) : (xs.map enc).flatten.length = xs.length * k := by
  rw [flat_len (k := k) (by simp [hk]), List.length_map]
end Go.Proofs.YtlfhoiakmbcnlaaDoor
namespace Go.Proofs.YtlfhoiakmbcnlaaDoor
theorem lit_un {I : G} {x v : Value} (h : RepV I (lit x) v) : v = x := by cases x <;> exact h
theorem lit_uns {I : G} : ∀ {xs vs : List Value}, RepL I (xs.map lit) vs → vs = xs
  | [], _, h => h
  | x :: xs, _, ⟨v, us, e, h1, h2⟩ => by rw [e, lit_un h1, lit_uns h2]
section
variable {E : World} {P : Program} {env : AEnv} {O : OL} {d ty : Nat} {pos : String} {af : Array Edge} {x y : Operand} {t u : TypeId}
theorem Gv.eqlP {xs ys : List Value} {r : Bool} (hg : P.eqGuardType P.depth t = false) (hx : aev env x = .agg (xs.map lit)) (hy : aev env y = .agg (ys.map lit)) (hr : ∀ w, (Op.equalIn 10000 t (.agg xs.toArray) (.agg ys.toArray)).run P w = .ok r w) :
    Gv P env O (Oper.mk (some d) (.binOp .eql t x y u) ty pos af none) (.bool r) := Gv.ofEv fun I ρ h => by
  have h1 := h.ev x
  have h2 := h.ev y
  rw [hx] at h1
  rw [hy] at h2
  obtain ⟨vs, e1, hv⟩ := h1
  obtain ⟨us, e2, hu⟩ := h2
  rw [lit_uns hv] at e1
  rw [lit_uns hu] at e2
  exact ⟨_, rfl, fun w => by simp only [execOp, e1, e2]; simp [run_eqGuard_agg w .eql t x y xs.toArray ys.toArray hg, run_eql_struct, hr]⟩
theorem Gv.neqP {xs ys : List Value} {r : Bool} (hg : P.eqGuardType P.depth t = false) (hx : aev env x = .agg (xs.map lit)) (hy : aev env y = .agg (ys.map lit)) (hr : ∀ w, (Op.equalIn 10000 t (.agg xs.toArray) (.agg ys.toArray)).run P w = .ok r w) :
    Gv P env O (Oper.mk (some d) (.binOp .neq t x y u) ty pos af none) (.bool (!r)) := Gv.ofEv fun I ρ h => by
  have h1 := h.ev x
  have h2 := h.ev y
  rw [hx] at h1
  rw [hy] at h2
  obtain ⟨vs, e1, hv⟩ := h1
  obtain ⟨us, e2, hu⟩ := h2
  rw [lit_uns hv] at e1
  rw [lit_uns hu] at e2
  exact ⟨_, rfl, fun w => by simp only [execOp, e1, e2]; simp [run_eqGuard_agg w .neq t x y xs.toArray ys.toArray hg, run_neq_struct, hr]⟩
end

theorem ne_at {α : Type} {xs ys : List α} {k : Nat} (h1 : k < xs.length) (h2 : k < ys.length) (h : ¬ xs[k] = ys[k]) : ¬ xs = ys := fun e => by subst e; exact h rfl
theorem take_push {α : Type} {xs ys : List α} {k : Nat} (h1 : k < xs.length) (h2 : k < ys.length) (he : xs.take k = ys.take k) (h : xs[k] = ys[k]) : xs.take (k + 1) = ys.take (k + 1) := by
  rw [List.take_succ_eq_append_getElem h1, List.take_succ_eq_append_getElem h2, he, h]
theorem take_done {α : Type} {xs ys : List α} {k : Nat} (hl : xs.length = ys.length) (hk : xs.length ≤ k) (he : xs.take k = ys.take k) : xs = ys := by
  rwa [List.take_of_length_le hk, List.take_of_length_le (by omega)] at he
end Go.Proofs.YtlfhoiakmbcnlaaDoor
namespace Go.Proofs.YtlfhoiakmbcnlaaDoor
section
variable {E : World} {P : Program} {ops : Array Oper} {K : AEnv → OL → Prop} {env : AEnv} {O O' : OL} {rest : List Oper}
variable {d ty : Nat} {pos : String} {af : Array Edge} {x y : Operand} {t u e : TypeId}
/-- Is a slice that is only read nil? Only an empty one may be. -/
theorem AOps.isNil {k : Nat} {rows : List (List AV)} (ht : P.underlying t = some (.slice e)) (hx : aev env x = .fro k rows) (hy : aev env y = .raw (.slice none 0 0)) (kt : rows = [] → AOps P E ops K rest (aupd env d (.bool true)) O) (kf : AOps P E ops K rest (aupd env d (.bool false)) O) :
    AOps P E ops K (Oper.mk (some d) (.binOp .eql t x y u) ty pos af none :: rest) env O := fun I F ρ w h1 h2 => by
  have h3 := h1.ev x
  rw [hx] at h3
  obtain ⟨a, n, c, e1, hn, hnc, hnil, _⟩ := h3
  refine Ops.eqNilS ht e1 (evRaw h1 hy) ?_
  cases a with
  | none =>
    have : rows = [] := List.eq_nil_of_length_eq_zero (by have := hnil rfl; omega)
    exact kt this I F _ w (h1.upd d rfl) h2
  | some p => exact kf I F _ w (h1.upd d rfl) h2
theorem adopt_fin {rs : Array ResultVar} {R : AV → OL → Prop} {s k : Nat} {T : TypeId} (hv : env s = .raw (.slice none 0 0)) (h : ∀ i, afin P E rs R .ret (aupd env s (.own i 0)) ((i, .grow k T []) :: O)) : afin P E rs R .ret env O := fun I F ρ w h1 h2 => by
  obtain ⟨i, hi⟩ := h2.name
  obtain ⟨J, e1, hle, e2, htop⟩ := hi (none, 0)
  obtain ⟨_, L, hL, hS⟩ := h2
  have h3 : ρ s = .slice none 0 0 := by have := h1 s; rw [hv] at this; exact this
  obtain ⟨v, g1, K, x, O', g2, g3⟩ := h i J F ρ w (fun q => by
    unfold aupd
    cases hb : Nat.beq q s with
    | false => exact RepV.mono hle _ _ (h1 q)
    | true =>
      have : q = s := Nat.eq_of_beq_eq_true hb
      subst this
      exact ⟨none, 0, e2, h3⟩) ⟨htop, _, ⟨[], L, rfl, ⟨none, 0, 0, [], e2, rfl, by simp, OwnS.nil k T⟩, hL.mono hle⟩, by rw [e1]; exact hS⟩
  exact ⟨v, g1, K, x, O', hle.trans g2, g3⟩
end
theorem Left.refl (O : OL) : Left O O := ⟨O, .refl _, rfl⟩
end Go.Proofs.YtlfhoiakmbcnlaaDoor
namespace Go.Proofs.YtlfhoiakmbcnlaaDoor
section
variable {E : World} {P : Program} {ops : Array Oper} {K : AEnv → OL → Prop} {env : AEnv} {O O' : OL} {rest : List Oper}
variable {d ty : Nat} {pos : String} {af : Array Edge} {x y : Operand} {t u e : TypeId}
theorem flat_full {k : Nat} {zs : List AV} {xs : List (List AV)} (hk : xs.all (fun x => Nat.beq x.length k) = true) (hz : zs.length = xs.length * k) : fillL (fun i => some (i * k, k)) zs ((xs.zipIdx 0).map fun p => (p.2, p.1)) = some xs.flatten := by
  have := fill_full xs 0 [] zs (fun x hx => Nat.eq_of_beq_eq_true (List.all_eq_true.1 hk x hx)) hz (by simp)
  simpa using this
theorem AOps.buildSliceFF {n k : Nat} {zs : List AV} {rows : List (List AV)} {l : List (Nat × Operand)} (hpl : PlacesS P t e n k zs) (hs : l.all (fun p => (aev env p.2).sto) = true) (hv : l.map (fun p => (p.1, (aev env p.2).cs)) = (rows.zipIdx 0).map fun p => (p.2, p.1))
    (hk : rows.all (fun r => Nat.beq r.length k) = true) (hn : rows.length = n) (hz : zs.length = n * k) (kk : AOps P E ops K rest (aupd env d (.fro k rows)) O) :
    AOps P E ops K (Oper.mk (some d) (.buildSlice t n l.toArray) ty pos af none :: rest) env O :=
  AOps.buildSliceF hpl hs hv (flat_full hk (by rw [hz, hn])) rfl hk hn kk
end
theorem SL.belowE {I : Ghost} {O : List (Nat × Obj)} {E w : World} (hS : SL I O E w) : Go.RowKit.Below E.heap.size E w := by
  have key : ∀ k, k < E.heap.size → w.heap[k]? = E.heap[k]? := fun k hk => by
    have h1 : E.heap[k]? = some E.heap[k] := Array.getElem?_eq_getElem hk
    rw [h1]
    exact hS.pers _ _ (hS.base k _ h1)
  refine ⟨hS.os, hS.tape, hS.output, ?_, key⟩
  rcases Nat.lt_or_ge w.heap.size E.heap.size with h | h
  · have := key w.heap.size h
    rw [Array.getElem?_eq_none (Nat.le_refl _), Array.getElem?_eq_getElem h] at this
    cases this
  · exact h
/-- A contract that came as a plain call: the world goes on below. -/
theorem AFun.ofBelow {E : World} {P : Program} {f : FuncId} {fn : Func} {c : Code} {as : List AV} {vs : List Value} {r : Value} (hf : P.funcs[f]? = some fn) (hb : fn.body = some c) (hn : fn.name ≠ "runtime.NumGoroutine") (has : as = vs.map lit)
    (h : ∀ w, Go.RowKit.Below E.heap.size E w → Calls P f vs.toArray w fun e w' => e = .returned r ∧ Go.RowKit.Below w.heap.size w w') : AFun P E f as (lit r) := fun I F w us h1 h2 => by
  subst has
  rw [lit_uns h1]
  obtain ⟨ht, L, hL, hS⟩ := h2
  have hL : L = [] := hL
  subst hL
  refine Fn.ofCalls hf hb hn ?_
  exact (h w hS.belowE).mono fun e w' ⟨he, hw⟩ => ⟨_, he, I, lit r, [], .refl _, lit_rep I r, ⟨ht, [], rfl, hS.below hw⟩, rfl⟩
end Go.Proofs.YtlfhoiakmbcnlaaDoor
