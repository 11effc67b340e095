/- A small walk over environments of slots, on the kit's own rules for code: each rule here is derived from them. No conditions. -/
import Derived.WalkKit
namespace Go.Proofs.YtlfhoiakmbcnlaaDoor

abbrev Env := Nat → Value
def upd (ρ : Env) (d : Nat) (v : Value) : Env := fun t => bif Nat.beq t d then v else ρ t
def updO (ρ : Env) (d : Option Nat) (v : Value) : Env := match d with | some d => upd ρ d v | none => ρ
def ev (ρ : Env) : Operand → Value
  | .tmp t => ρ t
  | .const v => v
  | .global g => .pointer (some ⟨g, 0, none⟩)
  | .func f => .func (.func f) #[] #[]

theorem upd_same (ρ : Env) (d : Nat) (v : Value) : upd ρ d v d = v := by simp [upd]
theorem upd_other (ρ : Env) {d t : Nat} (v : Value) (h : t ≠ d) : upd ρ d v t = ρ t := by
  have : Nat.beq t d = false := by cases hb : Nat.beq t d <;> simp_all
  simp [upd, this]

/-- The frame `a` holds what `ρ` says, in `n` slots; nothing is deferred. -/
structure Agree (n : Nat) (a : Act) (ρ : Env) : Prop where
  size : a.tmps.size = n
  defers : a.defers = []
  at_ : ∀ t, a.tmps.getD t undef = ρ t

theorem Agree.eval {n : Nat} {a : Act} {ρ : Env} (h : Agree n a ρ) : a.eval = ev ρ := by
  funext x; cases x <;> simp [Act.eval, ev, h.at_]

theorem Agree.put {n : Nat} {a : Act} {ρ : Env} (h : Agree n a ρ) {d : Option Nat} (hd : d.all (fun d => decide (d < n)) = true) (v : Value) : Agree n (a.put d v) (updO ρ d v) := by
  cases d with
  | none => exact h
  | some d =>
    have hd' : d < a.tmps.size := by rw [h.size]; simpa using hd
    refine ⟨by simp [Act.put, h.size], h.defers, fun t => ?_⟩
    simp only [Act.put, updO]
    by_cases e : t = d
    · subst e; rw [upd_same]; simp [hd']
    · rw [upd_other _ _ e, ← h.at_ t]
      simp only [Array.getD_eq_getD_getElem?]
      rw [Array.getElem?_setIfInBounds_ne (by omega)]

def lift (n : Nat) (Q : Exit → Env → World → Prop) : Exit → Act → World → Prop := fun e a w => ∃ ρ, Agree n a ρ ∧ Q e ρ w

def WP (P : Program) (n : Nat) (c : Code) (Q : Exit → Env → World → Prop) (ρ : Env) (w : World) : Prop :=
  ∀ a, Agree n a ρ → c.wp P (lift n Q) a w

def seqQ (K : Env → World → Prop) (Q : Exit → Env → World → Prop) : Exit → Env → World → Prop := fun e ρ w =>
  match e with
  | .normal => K ρ w
  | e => Q e ρ w

def blockQ (id : Nat) (Q : Exit → Env → World → Prop) : Exit → Env → World → Prop := fun e ρ w =>
  match e with
  | .exit i => if i = id then Q .normal ρ w else Q (.exit i) ρ w
  | e => Q e ρ w

section
variable {P : Program} {n : Nat} {Q : Exit → Env → World → Prop} {ρ : Env} {w : World}
theorem seqQ_ret {K : Env → World → Prop} (h : Q .ret ρ w) : seqQ K Q .ret ρ w := h
theorem blockQ_ret {id : Nat} (h : Q .ret ρ w) : blockQ id Q .ret ρ w := h

theorem WP.mono {c : Code} {Q' : Exit → Env → World → Prop} (h : WP P n c Q ρ w) (hq : ∀ e ρ w, Q e ρ w → Q' e ρ w) : WP P n c Q' ρ w :=
  fun a ha => wp_mono (h a ha) fun _ _ _ ⟨ρ, h1, h2⟩ => ⟨ρ, h1, hq _ _ _ h2⟩

theorem WP.skip (h : Q .normal ρ w) : WP P n .skip Q ρ w := fun _ ha => wp_skip ⟨ρ, ha, h⟩
theorem WP.ret (h : Q .ret ρ w) : WP P n .ret Q ρ w := fun _ ha => wp_ret ⟨ρ, ha, h⟩
theorem WP.exit {id : Nat} (h : Q (.exit id) ρ w) : WP P n (.exit id) Q ρ w := fun _ ha => wp_exit ⟨ρ, ha, h⟩

theorem WP.seq {x y : Code} (h : WP P n x (seqQ (WP P n y Q) Q) ρ w) : WP P n (.seq x y) Q ρ w := fun a ha =>
  wp_seq (wp_mono (h a ha) fun e a w ⟨ρ, h1, h2⟩ => by
    cases e <;> first | exact h2 a h1 | exact ⟨ρ, h1, h2⟩)

theorem WP.cond {c : Operand} {x y : Code} {t : Bool} (hc : ev ρ c = .bool t) (h : (if t then WP P n x Q ρ w else WP P n y Q ρ w)) : WP P n (.cond c x y) Q ρ w := fun a ha =>
  wp_cond (t := t) (by rw [ha.eval]; exact hc) (by cases t <;> exact h a ha)

theorem WP.condP {c : Operand} {x y : Code} {p : Prop} [Decidable p] (hc : ev ρ c = .bool (decide p)) (h : p → WP P n x Q ρ w) (h' : ¬ p → WP P n y Q ρ w) : WP P n (.cond c x y) Q ρ w :=
  WP.cond hc (by by_cases hp : p <;> simp [hp, h, h'])

theorem WP.condB {c : Operand} {x y : Code} {t : Bool} (hc : ev ρ c = .bool t) (h : t = true → WP P n x Q ρ w) (h' : t = false → WP P n y Q ρ w) : WP P n (.cond c x y) Q ρ w :=
  WP.cond hc (by cases t <;> simp [h, h'])

theorem WP.block {id : Nat} {c : Code} (h : WP P n c (blockQ id Q) ρ w) : WP P n (.block id c) Q ρ w := fun a ha =>
  wp_block (wp_mono (h a ha) fun e a w ⟨ρ, h1, h2⟩ => by
    cases e <;> try exact ⟨ρ, h1, h2⟩
    rename_i i
    simp only [Exit.inBlock]
    simp only [blockQ] at h2
    split <;> rename_i hi
    · rw [if_pos hi] at h2; exact ⟨ρ, h1, h2⟩
    · rw [if_neg hi] at h2; exact ⟨ρ, h1, h2⟩)

theorem WP.cut {c : Code} (J : Env → World → Prop) (h : WP P n c (seqQ J Q) ρ w) (hj : ∀ ρ w, J ρ w → Q .normal ρ w) : WP P n c Q ρ w :=
  h.mono fun e ρ w hq => by cases e <;> first | exact hj _ _ hq | exact hq

/-- A loop, with a state `g` told beside it, that gets less. -/
theorem WP.loop {γ : Type} {c : Code} (I : γ → Env → World → Prop) (μ : γ → Nat) (g₀ : γ) (h₀ : I g₀ ρ w)
    (round : ∀ g ρ w, I g ρ w → WP P n c (seqQ (fun ρ' w' => ∃ g', I g' ρ' w' ∧ μ g' < μ g) Q) ρ w) : WP P n (.loop c) Q ρ w := by
  intro a ha b k cs
  have key : ∀ m g ρ a w, μ g = m → Agree n a ρ → I g ρ w →
      ∃ e a' w', lift n Q e a' w' ∧ Arrives P (lone (b.at a (.code c :: .inLoop c :: k)) cs w) b k cs e a' w' := by
    intro m
    induction m using Nat.strongRecOn with
    | _ m ih =>
      intro g ρ a w hm ha hI
      obtain ⟨e, a₁, w₁, ⟨ρ₁, hq1, hq2⟩, harr⟩ := round g ρ w hI a ha b (.inLoop c :: k) cs
      cases e with
      | normal =>
        obtain ⟨g', hI₁, hlt⟩ := hq2
        obtain ⟨e₂, a₂, w₂, hq₂, harr₂⟩ := ih (μ g') (hm ▸ hlt) g' ρ₁ a₁ w₁ rfl hq1 hI₁
        exact ⟨e₂, a₂, w₂, hq₂, .of_steps (Steps.trans harr (.one step_inLoop)) harr₂⟩
      | exit id => exact ⟨_, a₁, w₁, ⟨ρ₁, hq1, hq2⟩, .pass (x := .inLoop c) rfl (fun _ _ => .inl (by simp)) harr⟩
      | goto l => exact ⟨_, a₁, w₁, ⟨ρ₁, hq1, hq2⟩, .pass (x := .inLoop c) rfl (fun _ _ => .inl (by simp)) harr⟩
      | ret => exact ⟨_, a₁, w₁, ⟨ρ₁, hq1, hq2⟩, .pass (x := .inLoop c) rfl (fun _ _ => .inl (by simp)) harr⟩
      | panic ch => exact ⟨_, a₁, w₁, ⟨ρ₁, hq1, hq2⟩, .pass (x := .inLoop c) rfl (fun _ _ => .inl (by simp)) harr⟩
      | outgrown => exact ⟨_, a₁, w₁, ⟨ρ₁, hq1, hq2⟩, .pass (x := .inLoop c) rfl (fun _ _ => .inl (by simp)) harr⟩
  obtain ⟨e, a', w', hq, harr⟩ := key _ g₀ ρ a w rfl ha h₀
  exact ⟨e, a', w', hq, .of_steps (.one step_loop) harr⟩
end

/-! ### Operations -/

/-- What an operation does: a value, nothing, or a call that returns. -/
def OpW (P : Program) (o : Oper) (ρ : Env) (w : World) (K : Value → World → Prop) : Prop :=
  match (execOp (ev ρ) o).run P w with
  | .ok (.value v) w' => K v w'
  | .ok .skip w' => K undef w'
  | .ok (.enter f args) w' => Calls P f args w' fun e w'' => ∃ v, e = .returned v ∧ K v w''
  | _ => False

def wantedE (ops : Array Oper) (o : Oper) (ρ : Env) : Bool :=
  match o.guard with
  | none => true
  | some (j, b) => match (ops[j]?).bind (·.dst) with
    | some s => (match ρ s with | .bool b' => b' == b | _ => false)
    | none => false

def Ops (P : Program) (ops : Array Oper) (K : Env → World → Prop) : List Oper → Env → World → Prop
  | [], ρ, w => K ρ w
  | o :: rest, ρ, w =>
    if wantedE ops o ρ then OpW P o ρ w (fun v w' => Ops P ops K rest (updO ρ o.dst v) w')
    else Ops P ops K rest (updO ρ o.dst undef) w

def dstsOk (n : Nat) (l : List Oper) : Bool := l.all fun o => o.dst.all (fun d => decide (d < n))

theorem OpW.mono {P : Program} {o : Oper} {ρ : Env} {w : World} {K K' : Value → World → Prop} (h : OpW P o ρ w K) (hk : ∀ v w, K v w → K' v w) : OpW P o ρ w K' := by
  unfold OpW at *
  split at h
  · exact hk _ _ h
  · exact hk _ _ h
  · exact h.mono fun e w ⟨v, h1, h2⟩ => ⟨v, h1, hk _ _ h2⟩
  · exact h.elim

theorem OpW.wp {P : Program} {n : Nat} {o : Oper} {ρ : Env} {w : World} {K : Value → World → Prop} {a : Act} (ha : Agree n a ρ)
    {next : Act → World → Prop} {Q : Exit → Act → World → Prop} (h : OpW P o ρ w K) (hk : ∀ v w', K v w' → next (a.put o.dst v) w') : o.wp P a w next Q := by
  unfold OpW at h
  unfold Oper.wp
  rw [ha.eval]
  split at h
  · rename_i heq; rw [heq]; exact hk _ _ h
  · rename_i heq; rw [heq]; exact hk _ _ h
  · rename_i heq; rw [heq, Oper.upon_enter]
    exact h.mono fun e w'' ⟨v, he, hK⟩ => by subst he; exact hk _ _ hK
  · exact h.elim

theorem wanted_eq {n : Nat} {a : Act} {ρ : Env} (ha : Agree n a ρ) (ops : Array Oper) (o : Oper) (hops : ∀ (j s : Nat), (ops[j]?).bind (fun o : Oper => o.dst) = some s → s < n) :
    Region.wanted o (yielded ops a.tmps) = wantedE ops o ρ := by
  unfold Region.wanted wantedE
  split
  · rename_i h; simp [h]
  · rename_i j b h
    simp only [h]
    unfold yielded
    cases hd : (ops[j]?).bind (·.dst) with
    | none => simp
    | some s =>
      have hs := hops j s hd
      have h1 : a.tmps[s]? = some (ρ s) := by
        rw [← ha.at_ s]
        simp [Array.getD_eq_getD_getElem?, ha.size, hs]
      simp only [Option.bind_some, h1]
      cases ρ s <;> simp

theorem Ops.wpList {P : Program} {n : Nat} {ops : Array Oper} {K : Env → World → Prop} {Q : Exit → Act → World → Prop} (hops : ∀ (j s : Nat), (ops[j]?).bind (fun o : Oper => o.dst) = some s → s < n)
    (hK : ∀ a ρ w, Agree n a ρ → K ρ w → Q .normal a w) : ∀ (l : List Oper) (ρ : Env) (w : World) (a : Act), dstsOk n l = true → Agree n a ρ → Ops P ops K l ρ w → wpList P ops Q l a w
  | [], ρ, w, a, _, ha, h => hK a ρ w ha h
  | o :: rest, ρ, w, a, hd, ha, h => by
    simp only [dstsOk, List.all_cons, Bool.and_eq_true] at hd
    unfold Go.wpList
    rw [wanted_eq ha ops o hops]
    unfold Ops at h
    split
    · rename_i hw
      rw [if_pos hw] at h
      exact .inl (h.wp ha fun v w' hv => Ops.wpList hops hK rest _ _ _ hd.2 (ha.put hd.1 v) hv)
    · rename_i hw
      rw [if_neg hw] at h
      exact Ops.wpList hops hK rest _ _ _ hd.2 (ha.put hd.1 undef) h

theorem dst_lt {n : Nat} {l : List Oper} (hd : dstsOk n l = true) (j s : Nat) (h : (l.toArray[j]?).bind (fun o : Oper => o.dst) = some s) : s < n := by
  simp only [dstsOk, List.all_eq_true] at hd
  rcases hj : l[j]? with _ | o
  · simp [hj] at h
  · have := hd o (List.mem_of_getElem? hj)
    simp only [List.getElem?_toArray, hj, Option.bind_some] at h
    simpa [h] using this

theorem WP.region {P : Program} {n : Nat} {Q : Exit → Env → World → Prop} {ρ : Env} {w : World} {id : Nat} {l : List Oper} (hd : dstsOk n l = true)
    (h : Ops P l.toArray (Q .normal) l ρ w) : WP P n (.region id l.toArray false) Q ρ w := fun a ha =>
  wp_region_lit (Ops.wpList (dst_lt hd) (fun _ _ _ ha hK => ⟨_, ha, hK⟩) l ρ w a hd ha h)

section
variable {P : Program} {ops : Array Oper} {K : Env → World → Prop} {ρ : Env} {w : World} {rest : List Oper} {o : Oper}
theorem Ops.nil (h : K ρ w) : Ops P ops K [] ρ w := h
theorem Ops.step (hg : o.guard = none) (h : OpW P o ρ w (fun v w' => Ops P ops K rest (updO ρ o.dst v) w')) : Ops P ops K (o :: rest) ρ w := by
  unfold Ops; rw [if_pos (by simp [wantedE, hg])]; exact h
theorem Ops.mono {K' : Env → World → Prop} (hk : ∀ ρ w, K ρ w → K' ρ w) : ∀ (l : List Oper) (ρ : Env) (w : World), Ops P ops K l ρ w → Ops P ops K' l ρ w
  | [], _, _, h => hk _ _ h
  | o :: rest, ρ, w, h => by
    unfold Ops at *
    split
    · rename_i hw; rw [if_pos hw] at h; exact h.mono fun v w' hv => Ops.mono hk rest _ _ hv
    · rename_i hw; rw [if_neg hw] at h; exact Ops.mono hk rest _ _ h
end

/-! ### Functions -/

def resE (rs : Array ResultVar) (ρ : Env) (P : Program) (w : World) : Result Value :=
  ((do
    let vs ← rs.mapM fun x => match x with
      | .tmp t => Pure.pure (ρ t)
      | .cell a t => do loadVar t (← asAddr (ρ a))
    Pure.pure (if h : vs.size = 1 then vs[0] else Value.tuple vs)) : Sem Value).run P w

theorem results_eq {n : Nat} {a : Act} {ρ : Env} (ha : Agree n a ρ) (fn : Func) (P : Program) (w : World) : (results fn a.tmps).run P w = resE fn.results ρ P w := by
  unfold results resE
  simp only [ha.at_]
  rfl

def Fn (P : Program) (f : FuncId) (args : Array Value) (w : World) (R : Value → World → Prop) : Prop :=
  (∃ fn c, P.funcs[f]? = some fn ∧ fn.body = some c ∧ fn.name ≠ "runtime.NumGoroutine") ∧ Calls P f args w fun e w' => ∃ v, e = .returned v ∧ R v w'

theorem Fn.mono {P : Program} {f : FuncId} {args : Array Value} {w : World} {R R' : Value → World → Prop} (h : Fn P f args w R) (hr : ∀ v w, R v w → R' v w) : Fn P f args w R' :=
  ⟨h.1, h.2.mono fun _ _ ⟨v, h1, h2⟩ => ⟨v, h1, hr _ _ h2⟩⟩

def finQ (P : Program) (rs : Array ResultVar) (R : Value → World → Prop) : Exit → Env → World → Prop := fun e ρ w =>
  match e with
  | .normal | .ret => ∃ v, resE rs ρ P w = .ok v w ∧ R v w
  | _ => False

def env0 (args : Array Value) : Env := fun t => args.getD t undef

theorem Fn.intro {P : Program} {f : FuncId} {fn : Func} {c : Code} {args : Array Value} {w : World} {R : Value → World → Prop} (hf : P.funcs[f]? = some fn) (hb : fn.body = some c)
    (hn : fn.name ≠ "runtime.NumGoroutine") (hs : Nat.ble args.size fn.ntmps = true) (h : WP P fn.ntmps c (finQ P fn.results R) (env0 args) w) : Fn P f args w R := by
  have hs := Nat.le_of_ble_eq_true hs
  refine ⟨⟨fn, c, hf, hb, hn⟩, calls_of_wp hf hb (wp_mono (h _ ⟨?_, rfl, ?_⟩) ?_)⟩
  · simp; omega
  · intro t
    simp only [env0, Array.getD_eq_getD_getElem?]
    by_cases ht : t < args.size
    · rw [Array.getElem?_append_left ht]
    · rw [Array.getElem?_append_right (by omega)]
      by_cases h2 : t - args.size < fn.ntmps - args.size
      · rw [Array.getElem?_replicate, if_pos h2, Array.getElem?_eq_none (by omega)]; rfl
      · rw [Array.getElem?_replicate, if_neg h2, Array.getElem?_eq_none (by omega)]
  · rintro e a w ⟨ρ, ha, hq⟩
    cases e <;> first | exact hq.elim | (obtain ⟨v, h1, h2⟩ := hq; exact ⟨ha.defers, v, by rw [results_eq ha]; exact h1, v, rfl, h2⟩)

end Go.Proofs.YtlfhoiakmbcnlaaDoor
