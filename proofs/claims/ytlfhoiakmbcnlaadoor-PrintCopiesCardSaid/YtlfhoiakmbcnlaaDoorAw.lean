/- A walk over slots that are told as plain data. No conditions. -/
import Derived.Test.YtlfhoiakmbcnlaaDoorAv
namespace Go.Proofs.YtlfhoiakmbcnlaaDoor

def postE (I : G) (F : List (Nat × Obj)) (E : World) (Q : Exit → AEnv → OL → Prop) : Exit → Env → World → Prop := fun e ρ w => ∃ J env O, I.le J ∧ RepE J env ρ ∧ SLA J O F E w ∧ Q e env O
def postK (I : G) (F : List (Nat × Obj)) (E : World) (K : AEnv → OL → Prop) : Env → World → Prop := fun ρ w => ∃ J env O, I.le J ∧ RepE J env ρ ∧ SLA J O F E w ∧ K env O

theorem postE.up {I J : G} {F : List (Nat × Obj)} {E : World} {Q : Exit → AEnv → OL → Prop} (h : I.le J) {e : Exit} {ρ : Env} {w : World} : postE J F E Q e ρ w → postE I F E Q e ρ w :=
  fun ⟨K, env, O, h1, h2⟩ => ⟨K, env, O, h.trans h1, h2⟩
theorem postK.up {I J : G} {F : List (Nat × Obj)} {E : World} {Q : AEnv → OL → Prop} (h : I.le J) {ρ : Env} {w : World} : postK J F E Q ρ w → postK I F E Q ρ w :=
  fun ⟨K, env, O, h1, h2⟩ => ⟨K, env, O, h.trans h1, h2⟩

def AWP (P : Program) (E : World) (n : Nat) (c : Code) (Q : Exit → AEnv → OL → Prop) (env : AEnv) (O : OL) : Prop :=
  ∀ I F ρ w, RepE I env ρ → SLA I O F E w → WP P n c (postE I F E Q) ρ w

def aseqQ (K : AEnv → OL → Prop) (Q : Exit → AEnv → OL → Prop) : Exit → AEnv → OL → Prop := fun e env O =>
  match e with
  | .normal => K env O
  | e => Q e env O
def ablockQ (id : Nat) (Q : Exit → AEnv → OL → Prop) : Exit → AEnv → OL → Prop := fun e env O =>
  match e with
  | .exit i => if i = id then Q .normal env O else Q (.exit i) env O
  | e => Q e env O

section
variable {E : World} {P : Program} {n : Nat} {Q : Exit → AEnv → OL → Prop} {env : AEnv} {O : OL}

theorem aseqQ_ret {K : AEnv → OL → Prop} (h : Q .ret env O) : aseqQ K Q .ret env O := h
theorem ablockQ_ret {id : Nat} (h : Q .ret env O) : ablockQ id Q .ret env O := h

theorem AWP.mono {c : Code} {Q' : Exit → AEnv → OL → Prop} (h : AWP P E n c Q env O) (hq : ∀ e env O, Q e env O → Q' e env O) : AWP P E n c Q' env O :=
  fun I F ρ w h1 h2 => (h I F ρ w h1 h2).mono fun _ _ _ ⟨J, env, O, a, b, c, d⟩ => ⟨J, env, O, a, b, c, hq _ _ _ d⟩
theorem AWP.skip (h : Q .normal env O) : AWP P E n .skip Q env O := fun I _ _ _ h1 h2 => WP.skip ⟨I, env, O, .refl _, h1, h2, h⟩
theorem AWP.ret (h : Q .ret env O) : AWP P E n .ret Q env O := fun I _ _ _ h1 h2 => WP.ret ⟨I, env, O, .refl _, h1, h2, h⟩
theorem AWP.exit {id : Nat} (h : Q (.exit id) env O) : AWP P E n (.exit id) Q env O := fun I _ _ _ h1 h2 => WP.exit ⟨I, env, O, .refl _, h1, h2, h⟩
theorem AWP.seq {x y : Code} (h : AWP P E n x (aseqQ (AWP P E n y Q) Q) env O) : AWP P E n (.seq x y) Q env O := fun I F ρ w h1 h2 =>
  WP.seq ((h I F ρ w h1 h2).mono fun e ρ w ⟨J, env, O, a, b, c, d⟩ => by
    cases e <;> first | exact (d J F ρ w b c).mono (fun _ _ _ => postE.up a) | exact ⟨J, env, O, a, b, c, d⟩)
theorem AWP.block {id : Nat} {c : Code} (h : AWP P E n c (ablockQ id Q) env O) : AWP P E n (.block id c) Q env O := fun I F ρ w h1 h2 =>
  WP.block ((h I F ρ w h1 h2).mono fun e ρ w ⟨J, env, O, a, b, c, d⟩ => by
    cases e <;> try exact ⟨J, env, O, a, b, c, d⟩
    rename_i i
    simp only [ablockQ] at d
    simp only [blockQ]
    split <;> rename_i hi
    · rw [if_pos hi] at d; exact ⟨J, env, O, a, b, c, d⟩
    · rw [if_neg hi] at d; exact ⟨J, env, O, a, b, c, d⟩)
theorem AWP.cond {c : Operand} {x y : Code} {t : Bool} (hc : aev env c = .bool t) (h : t = true → AWP P E n x Q env O) (h' : t = false → AWP P E n y Q env O) : AWP P E n (.cond c x y) Q env O := fun I F ρ w h1 h2 =>
  WP.condB (t := t) (by have := h1.ev c; rw [hc] at this; exact this) (fun e => h e I F ρ w h1 h2) (fun e => h' e I F ρ w h1 h2)
theorem AWP.condP {c : Operand} {x y : Code} {p : Prop} [Decidable p] (hc : aev env c = .bool (decide p)) (h : p → AWP P E n x Q env O) (h' : ¬ p → AWP P E n y Q env O) : AWP P E n (.cond c x y) Q env O :=
  AWP.cond hc (fun e => h (of_decide_eq_true e)) (fun e => h' (of_decide_eq_false e))
theorem AWP.condT {c : Operand} {x y : Code} {t : Bool} (hc : aev env c = .bool t) (ht : t = true) (h : AWP P E n x Q env O) : AWP P E n (.cond c x y) Q env O := AWP.cond hc (fun _ => h) (fun e => by rw [ht] at e; cases e)
theorem AWP.condF {c : Operand} {x y : Code} {t : Bool} (hc : aev env c = .bool t) (ht : t = false) (h : AWP P E n y Q env O) : AWP P E n (.cond c x y) Q env O := AWP.cond hc (fun e => by rw [ht] at e; cases e) (fun _ => h)

/-- Less may be told of the slots. -/
theorem AWP.weak {c : Code} {env' : AEnv} (h : AWP P E n c Q env' O) (hw : ∀ t, env' t = .any ∨ env' t = env t) : AWP P E n c Q env O := fun I F ρ w h1 h2 =>
  h I F ρ w (fun t => by
    rcases hw t with e | e
    · rw [e]; trivial
    · rw [e]; exact h1 t) h2

/-- Only these slots are kept. -/
def keep (env : AEnv) (l : List Nat) : AEnv := fun t => bif l.any (Nat.beq t) then env t else .any
def put (env : AEnv) : List (Nat × AV) → AEnv
  | [] => env
  | (d, v) :: l => aupd (put env l) d v
theorem AWP.keep (l : List Nat) {c : Code} (h : AWP P E n c Q (keep env l) O) : AWP P E n c Q env O := h.weak fun t => by
  unfold Go.Proofs.YtlfhoiakmbcnlaaDoor.keep
  cases l.any (Nat.beq t) <;> simp

/-- `env` tells no less than these. -/
def Tells (env : AEnv) : List (Nat × AV) → Prop
  | [] => True
  | (d, v) :: l => env d = v ∧ Tells env l
def Frames (env env' : AEnv) : List Nat → Prop
  | [] => True
  | d :: l => env' d = env d ∧ Frames env env' l

theorem put_weak {env env' : AEnv} {f : List Nat} {l : List (Nat × AV)} (h1 : Frames env env' f) (h2 : Tells env' l) : ∀ t, put (Go.Proofs.YtlfhoiakmbcnlaaDoor.keep env f) l t = .any ∨ put (Go.Proofs.YtlfhoiakmbcnlaaDoor.keep env f) l t = env' t := by
  intro t
  induction l with
  | nil =>
    simp only [put, Go.Proofs.YtlfhoiakmbcnlaaDoor.keep]
    cases hb : f.any (Nat.beq t) with
    | false => simp
    | true =>
      right
      simp only [cond_true]
      clear h2
      induction f with
      | nil => simp at hb
      | cons d f ih =>
        simp only [List.any_cons, Bool.or_eq_true] at hb
        rcases hb with hb | hb
        · have : t = d := Nat.eq_of_beq_eq_true hb
          subst this; exact h1.1.symm
        · exact ih h1.2 hb
  | cons x l ih =>
    obtain ⟨d, v⟩ := x
    simp only [put, aupd]
    cases hb : Nat.beq t d with
    | false => simpa using ih h2.2
    | true =>
      have : t = d := Nat.eq_of_beq_eq_true hb
      subst this; right; exact h2.1.symm

theorem AWP.cut {c : Code} (K : AEnv → OL → Prop) (h : AWP P E n c (aseqQ K Q) env O) (hj : ∀ env O, K env O → Q .normal env O) : AWP P E n c Q env O :=
  h.mono fun e ρ w hq => by cases e <;> first | exact hj _ _ hq | exact hq

/-- A loop: `γ` tells its state, that gets less. -/
theorem AWP.loop0 {γ : Type} {c : Code} (Inv : γ → AEnv → OL → Prop) (μ : γ → Nat) (g₀ : γ) (h₀ : Inv g₀ env O)
    (round : ∀ g env O, Inv g env O → AWP P E n c (aseqQ (fun env' O' => ∃ g', Inv g' env' O' ∧ μ g' < μ g) Q) env O) : AWP P E n (.loop c) Q env O := fun I F ρ w h1 h2 =>
  WP.loop (γ := γ) (fun g ρ w => ∃ J env O, I.le J ∧ RepE J env ρ ∧ SLA J O F E w ∧ Inv g env O) μ g₀ ⟨I, env, O, .refl _, h1, h2, h₀⟩
    (fun g ρ w ⟨J, env, O, hl, h3, h4, h5⟩ => (round g env O h5 J F ρ w h3 h4).mono fun e ρ' w' ⟨K, env', O', a, b, c, d⟩ => by
      cases e with
      | normal => obtain ⟨g', d1, d2⟩ := d; exact ⟨g', ⟨K, env', O', hl.trans a, b, c, d1⟩, d2⟩
      | exit _ => exact ⟨K, env', O', hl.trans a, b, c, d⟩
      | goto _ => exact ⟨K, env', O', hl.trans a, b, c, d⟩
      | ret => exact ⟨K, env', O', hl.trans a, b, c, d⟩
      | panic _ => exact ⟨K, env', O', hl.trans a, b, c, d⟩
      | outgrown => exact ⟨K, env', O', hl.trans a, b, c, d⟩)

theorem AWP.left {c : Code} {O' : OL} (hl : Left O O') (h : AWP P E n c Q env O') : AWP P E n c Q env O := fun I F ρ w h1 h2 => h I F ρ w h1 (hl.sla h2)

theorem Frames.refl (env : AEnv) : ∀ f, Frames env env f
  | [] => trivial
  | _ :: f => ⟨rfl, Frames.refl env f⟩
/-- A loop whose state is told by slots: `f` are as they were, `S g` what the others hold, `M g` what is owned. -/
theorem AWP.loop {γ : Type} {c : Code} (f : List Nat) (S : γ → List (Nat × AV)) (M : γ → OL) (p : γ → Prop) (μ : γ → Nat) (g₀ : γ) (h₀ : Tells env (S g₀)) (hO : Left O (M g₀)) (hp : p g₀)
    (round : ∀ g, p g → AWP P E n c (aseqQ (fun env' O' => ∃ g', Frames env env' f ∧ Tells env' (S g') ∧ Left O' (M g') ∧ p g' ∧ μ g' < μ g) Q) (put (Go.Proofs.YtlfhoiakmbcnlaaDoor.keep env f) (S g)) (M g)) : AWP P E n (.loop c) Q env O :=
  AWP.loop0 (fun g env' O' => Frames env env' f ∧ Tells env' (S g) ∧ Left O' (M g) ∧ p g) μ g₀ ⟨Frames.refl env f, h₀, hO, hp⟩
    (fun g env' O' ⟨h1, h2, h3, h4⟩ => by
      refine (((round g h4).weak (put_weak h1 h2)).left h3).mono fun e env O hq => ?_
      cases e <;> try exact hq
      obtain ⟨g', a, b, c, d, e⟩ := hq
      exact ⟨g', ⟨a, b, c, d⟩, e⟩)

/-- What comes behind a piece is walked once. -/
theorem AWP.cutS {γ : Type} {c d : Code} {Q' : Exit → AEnv → OL → Prop} (f : List Nat) (S : γ → List (Nat × AV)) (M : γ → OL) (p : γ → Prop) (h : AWP P E n c (aseqQ (fun env' O' => ∃ g, Frames env env' f ∧ Tells env' (S g) ∧ Left O' (M g) ∧ p g) Q) env O)
    (hQ : ∀ env O, AWP P E n d Q' env O → Q .normal env O) (hj : ∀ g, p g → AWP P E n d Q' (put (Go.Proofs.YtlfhoiakmbcnlaaDoor.keep env f) (S g)) (M g)) : AWP P E n c Q env O :=
  AWP.cut _ h fun env' O' ⟨g, h1, h2, h3, h4⟩ => hQ _ _ (((hj g h4).weak (put_weak h1 h2)).left h3)
end

/-! ### Operations -/
def AOps (P : Program) (E : World) (ops : Array Oper) (K : AEnv → OL → Prop) (l : List Oper) (env : AEnv) (O : OL) : Prop :=
  ∀ I F ρ w, RepE I env ρ → SLA I O F E w → Ops P ops (postK I F E K) l ρ w

/-- The operation gives `x`, and does nothing else. -/
def Gv (P : Program) (env : AEnv) (O : OL) (o : Oper) (x : AV) : Prop :=
  ∀ (I : G) L E ρ, RepE I env ρ → RepOs I O L → ∃ v, RepV I x v ∧ ∀ w J L', I.k.le J → SL J L' E w → (∀ y ∈ L, y ∈ L') → (execOp (ev ρ) o).run P w = .ok (.value v) w

section
variable {E : World} {P : Program} {n : Nat} {ops : Array Oper} {K : AEnv → OL → Prop} {env : AEnv} {O : OL} {rest : List Oper}
variable {d ty : Nat} {op : Op} {pos : String} {af : Array Edge}

theorem AOps.mono {l : List Oper} {K' : AEnv → OL → Prop} (h : AOps P E ops K l env O) (hk : ∀ env O, K env O → K' env O) : AOps P E ops K' l env O := fun I F ρ w h1 h2 =>
  Ops.mono (fun _ _ ⟨J, env, O, a, b, c, d⟩ => ⟨J, env, O, a, b, c, hk _ _ d⟩) _ _ _ (h I F ρ w h1 h2)
theorem AWP.region {Q : Exit → AEnv → OL → Prop} {id : Nat} {l : List Oper} (hd : dstsOk n l = true) (h : AOps P E l.toArray (Q .normal) l env O) : AWP P E n (.region id l.toArray false) Q env O := fun I F ρ w h1 h2 =>
  WP.region hd (h I F ρ w h1 h2)
theorem AOps.nil (h : K env O) : AOps P E ops K [] env O := fun I _ _ _ h1 h2 => Ops.nil ⟨I, env, O, .refl _, h1, h2, h⟩
theorem AOps.val {x : AV} (h : Gv P env O (Oper.mk (some d) op ty pos af none) x) (k : AOps P E ops K rest (aupd env d x) O) : AOps P E ops K (Oper.mk (some d) op ty pos af none :: rest) env O := fun I F ρ w h1 h2 => by
  obtain ⟨L, hL, hS⟩ := h2.2
  obtain ⟨v, hv, hr⟩ := h I L E ρ h1 hL
  exact Ops.val (hr w I.k (L ++ F) (.refl _) hS fun _ h => List.mem_append_left _ h) (k I F _ w (h1.upd d hv) h2)
theorem AOps.guardT {dd : Option Nat} {j s : Nat} {b t : Bool} (hs : (ops[j]?).bind (fun o : Oper => o.dst) = some s) (hv : env s = .bool t) (ht : t = b)
    (k : AOps P E ops K (Oper.mk dd op ty pos af none :: rest) env O) : AOps P E ops K (Oper.mk dd op ty pos af (some (j, b)) :: rest) env O := fun I F ρ w h1 h2 =>
  Ops.guardT hs (by have := h1 s; rw [hv] at this; exact this) ht (k I F ρ w h1 h2)
theorem AOps.guardF {dd : Option Nat} {j s : Nat} {b t : Bool} (hs : (ops[j]?).bind (fun o : Oper => o.dst) = some s) (hv : env s = .bool t) (ht : t = !b)
    (k : AOps P E ops K rest (aupdO env dd (.raw undef)) O) : AOps P E ops K (Oper.mk dd op ty pos af (some (j, b)) :: rest) env O := fun I F ρ w h1 h2 =>
  Ops.guardF hs (by have := h1 s; rw [hv] at this; exact this) ht (k I F _ w (h1.updO dd rfl) h2)
theorem AOps.guardFd {j s : Nat} {b t : Bool} (hs : (ops[j]?).bind (fun o : Oper => o.dst) = some s) (hv : env s = .bool t) (ht : t = !b)
    (k : AOps P E ops K rest (aupd env d (.raw undef)) O) : AOps P E ops K (Oper.mk (some d) op ty pos af (some (j, b)) :: rest) env O := AOps.guardF hs hv ht k
theorem AOps.guardU {dd : Option Nat} {j s : Nat} {b : Bool} (hs : (ops[j]?).bind (fun o : Oper => o.dst) = some s) (hv : env s = .raw undef)
    (k : AOps P E ops K rest (aupdO env dd (.raw undef)) O) : AOps P E ops K (Oper.mk dd op ty pos af (some (j, b)) :: rest) env O := fun I F ρ w h1 h2 =>
  Ops.guardU hs (by have := h1 s; rw [hv] at this; exact this) (k I F _ w (h1.updO dd rfl) h2)
theorem AOps.guardUd {j s : Nat} {b : Bool} (hs : (ops[j]?).bind (fun o : Oper => o.dst) = some s) (hv : env s = .raw undef)
    (k : AOps P E ops K rest (aupd env d (.raw undef)) O) : AOps P E ops K (Oper.mk (some d) op ty pos af (some (j, b)) :: rest) env O := AOps.guardU hs hv k
theorem AOps.case {s : Nat} {t : Bool} {l : List Oper} (hv : env s = .bool t) (h1 : t = true → AOps P E ops K l env O) (h2 : t = false → AOps P E ops K l env O) : AOps P E ops K l env O := by
  have _ := hv
  cases t
  · exact h2 rfl
  · exact h1 rfl
end
end Go.Proofs.YtlfhoiakmbcnlaaDoor
