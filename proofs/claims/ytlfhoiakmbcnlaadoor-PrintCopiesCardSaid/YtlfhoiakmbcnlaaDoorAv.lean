/- Values told without memory: what a slot holds, as plain data. No conditions. -/
import Derived.Test.YtlfhoiakmbcnlaaDoorRules4
namespace Go.Proofs.YtlfhoiakmbcnlaaDoor

/-- A value as plain data: slices that are only read are told by what they hold; what is owned by a name. -/
inductive AV where
  | any
  | bool (b : Bool)
  | int (k : IntKind) (n : Int)
  | str (s : ByteArray)
  | agg (cs : List AV)
  | tup (vs : List AV)
  | fro (k : Nat) (rows : List (List AV))
  | own (id n : Nat)
  | po (id off : Nat)
  | pf (cs : List AV)
  | raw (v : Value)
  | fn (f : FuncId) (first captured : List AV)
  | ifc (t : TypeId) (v : AV)
  | ext (p : Ghost → Value → Prop)
  deriving Inhabited

/-- What is known for ever, and the heads of what bears a name. -/
structure G where
  k : Ghost
  h : Nat → Option (Option Nat × Nat)

structure G.le (I J : G) : Prop where
  k : I.k.le J.k
  h : ∀ i x, I.h i = some x → J.h i = some x

theorem G.le.refl (I : G) : I.le I := ⟨Ghost.le.refl _, fun _ _ h => h⟩
theorem G.le.trans {I J K : G} (h : I.le J) (k : J.le K) : I.le K := ⟨h.k.trans k.k, fun i x hi => k.h i x (h.h i x hi)⟩

def KAt (I : Ghost) (b i : Nat) (v : Value) : Prop := ∃ c T f, I b = some (.cells c T f) ∧ c[i]? = some v
theorem KAt.mono {I J : Ghost} (h : I.le J) {b i : Nat} {v : Value} (hk : KAt I b i v) : KAt J b i v := let ⟨c, T, f, h1, h2⟩ := hk; ⟨c, T, f, h _ _ h1, h2⟩
theorem KAt.at_ {I : Ghost} {b i : Nat} {v : Value} (h : KAt I b i v) (O : List (Nat × Obj)) : At I O b i v := .inl h

def adr (b : Option Nat) : Option Addr := b.map fun b => ⟨b, 0, none⟩

mutual
def RepV (I : G) : AV → Value → Prop
  | .any, _ => True
  | .bool b, v => v = .bool b
  | .int k n, v => v = .int k n
  | .str s, v => v = .string s
  | .agg cs, v => ∃ vs : List Value, v = .agg vs.toArray ∧ RepL I cs vs
  | .tup cs, v => ∃ vs : List Value, v = .tuple vs.toArray ∧ RepL I cs vs
  | .fro k rows, v => ∃ a n c, v = .slice a n c ∧ n = rows.length ∧ n ≤ c ∧ (a = none → c = 0) ∧ RepR I k a 0 rows
  | .own id n, v => ∃ b c, I.h id = some (b, c) ∧ v = .slice (adr b) n c
  | .po id off, v => ∃ b c, I.h id = some (some b, c) ∧ v = .pointer (some ⟨b, off, none⟩)
  | .pf cs, v => ∃ b off vs, v = .pointer (some ⟨b, off, none⟩) ∧ RepL I cs vs ∧ ∀ (j : Nat) u, vs[j]? = some u → KAt I.k b (off + j) u
  | .raw w, v => v = w
  | .fn f a c, v => ∃ vs us : List Value, v = .func (.func f) vs.toArray us.toArray ∧ RepL I a vs ∧ RepL I c us
  | .ifc t x, v => ∃ u, v = .iface t u ∧ RepV I x u
  | .ext p, v => v.oneCell' = true ∧ ∀ J : Ghost, I.k.le J → p J v
def RepL (I : G) : List AV → List Value → Prop
  | [], vs => vs = []
  | x :: xs, vs => ∃ v us, vs = v :: us ∧ RepV I x v ∧ RepL I xs us
def RepR (I : G) (k : Nat) (a : Option Addr) (j : Nat) : List (List AV) → Prop
  | [] => True
  | r :: rs => (∃ b off vs, a = some ⟨b, off, none⟩ ∧ vs.length = k ∧ RepL I r vs ∧ ∀ (i : Nat) u, vs[i]? = some u → KAt I.k b (off + j * k + i) u) ∧ RepR I k a (j + 1) rs
end

mutual
theorem RepV.mono {I J : G} (h : I.le J) : ∀ (x : AV) (v : Value), RepV I x v → RepV J x v
  | .any, _, _ => trivial
  | .bool _, _, e => e
  | .int _ _, _, e => e
  | .str _, _, e => e
  | .agg cs, _, ⟨vs, e, h1⟩ => ⟨vs, e, RepL.mono h cs vs h1⟩
  | .tup cs, _, ⟨vs, e, h1⟩ => ⟨vs, e, RepL.mono h cs vs h1⟩
  | .fro k rows, _, ⟨a, n, c, e, h1, h2, h3, h4⟩ => ⟨a, n, c, e, h1, h2, h3, RepR.mono h k a 0 rows h4⟩
  | .own id _, _, ⟨b, c, h1, e⟩ => ⟨b, c, h.h _ _ h1, e⟩
  | .po id _, _, ⟨b, c, h1, e⟩ => ⟨b, c, h.h _ _ h1, e⟩
  | .pf cs, _, ⟨b, off, vs, e, h1, h2⟩ => ⟨b, off, vs, e, RepL.mono h cs vs h1, fun j u hj => (h2 j u hj).mono h.k⟩
  | .raw _, _, e => e
  | .fn _ a c, _, ⟨vs, us, e, h1, h2⟩ => ⟨vs, us, e, RepL.mono h a vs h1, RepL.mono h c us h2⟩
  | .ifc _ x, _, ⟨u, e, h1⟩ => ⟨u, e, RepV.mono h x u h1⟩
  | .ext _, _, ⟨h1, h2⟩ => ⟨h1, fun J hJ => h2 J (h.k.trans hJ)⟩
theorem RepL.mono {I J : G} (h : I.le J) : ∀ (x : List AV) (v : List Value), RepL I x v → RepL J x v
  | [], _, e => e
  | x :: xs, _, ⟨v, us, e, h1, h2⟩ => ⟨v, us, e, RepV.mono h x v h1, RepL.mono h xs us h2⟩
theorem RepR.mono {I J : G} (h : I.le J) (k : Nat) (a : Option Addr) (j : Nat) : ∀ (rows : List (List AV)), RepR I k a j rows → RepR J k a j rows
  | [], _ => trivial
  | r :: rs, ⟨⟨b, off, vs, e, h1, h2, h3⟩, h4⟩ => ⟨⟨b, off, vs, e, h1, RepL.mono h r vs h2, fun i u hi => (h3 i u hi).mono h.k⟩, RepR.mono h k a (j + 1) rs h4⟩
end

theorem RepL.length {I : G} : ∀ {xs : List AV} {vs : List Value}, RepL I xs vs → vs.length = xs.length
  | [], _, e => by simp [RepL] at e; simp [e]
  | x :: xs, _, ⟨v, us, e, _, h2⟩ => by subst e; simp [RepL.length h2]
theorem RepL.get {I : G} : ∀ {xs : List AV} {vs : List Value}, RepL I xs vs → ∀ {j : Nat} {x : AV}, xs[j]? = some x → ∃ v, vs[j]? = some v ∧ RepV I x v
  | [], _, _, j, x, hj => by simp at hj
  | y :: ys, _, ⟨v, us, e, h1, h2⟩, j, x, hj => by
    subst e
    cases j with
    | zero => simp at hj; subst hj; exact ⟨v, rfl, h1⟩
    | succ j => simp at hj; simpa using RepL.get h2 hj
theorem RepL.take {I : G} : ∀ {xs : List AV} {vs : List Value}, RepL I xs vs → ∀ n, RepL I (xs.take n) (vs.take n)
  | [], _, e, n => by simp [RepL] at e; simp [e, RepL]
  | y :: ys, _, ⟨v, us, e, h1, h2⟩, n => by
    subst e
    cases n with
    | zero => simp [RepL]
    | succ n => exact ⟨v, us.take n, by simp, h1, RepL.take h2 n⟩
theorem RepL.drop {I : G} : ∀ {xs : List AV} {vs : List Value}, RepL I xs vs → ∀ n, RepL I (xs.drop n) (vs.drop n)
  | [], _, e, n => by simp [RepL] at e; simp [e, RepL]
  | y :: ys, _, ⟨v, us, e, h1, h2⟩, n => by
    subst e
    cases n with
    | zero => exact ⟨v, us, rfl, h1, h2⟩
    | succ n => simpa using RepL.drop h2 n
theorem RepL.append {I : G} : ∀ {xs ys : List AV} {vs us : List Value}, RepL I xs vs → RepL I ys us → RepL I (xs ++ ys) (vs ++ us)
  | [], _, _, _, e, h => by simp [RepL] at e; simpa [e] using h
  | y :: ys, _, _, _, ⟨v, us, e, h1, h2⟩, h => by subst e; exact ⟨v, _, rfl, h1, RepL.append h2 h⟩
theorem RepL.set {I : G} : ∀ {xs : List AV} {vs : List Value}, RepL I xs vs → ∀ (j : Nat) {x : AV} {v : Value}, RepV I x v → RepL I (xs.set j x) (vs.set j v)
  | [], _, e, j, _, _, _ => by simp [RepL] at e; simp [e, RepL]
  | y :: ys, _, ⟨v, us, e, h1, h2⟩, j, x, u, hx => by
    subst e
    cases j with
    | zero => exact ⟨u, us, rfl, hx, h2⟩
    | succ j => exact ⟨v, _, rfl, h1, RepL.set h2 j hx⟩
theorem RepR.get {I : G} {k : Nat} {a : Option Addr} : ∀ {rows : List (List AV)} {j0 : Nat}, RepR I k a j0 rows → ∀ {j : Nat} {r : List AV}, rows[j]? = some r →
    ∃ b off vs, a = some ⟨b, off, none⟩ ∧ vs.length = k ∧ RepL I r vs ∧ ∀ (i : Nat) u, vs[i]? = some u → KAt I.k b (off + (j0 + j) * k + i) u
  | [], _, _, j, r, hj => by simp at hj
  | r :: rs, j0, ⟨h1, h2⟩, j, r', hj => by
    cases j with
    | zero => simp at hj; subst hj; simpa using h1
    | succ j =>
      simp at hj
      have := RepR.get h2 hj
      have e : j0 + 1 + j = j0 + (j + 1) := by omega
      rwa [e] at this
theorem RepR.intro {I : G} {k : Nat} {a : Option Addr} : ∀ {rows : List (List AV)} {j0 : Nat}, (∀ (j : Nat) (r : List AV), rows[j]? = some r →
    ∃ b off vs, a = some ⟨b, off, none⟩ ∧ vs.length = k ∧ RepL I r vs ∧ ∀ (i : Nat) u, vs[i]? = some u → KAt I.k b (off + (j0 + j) * k + i) u) → RepR I k a j0 rows
  | [], _, _ => trivial
  | r :: rs, j0, h => ⟨by simpa using h 0 r rfl, RepR.intro fun j r' hj => by
      have := h (j + 1) r' (by simpa using hj)
      have e : j0 + 1 + j = j0 + (j + 1) := by omega
      rwa [e]⟩

theorem RepL.one {I : G} {x : AV} {v : Value} (h : RepV I x v) : RepL I [x] [v] := ⟨v, [], rfl, h, rfl⟩

/-- A value that takes one cell. -/
def AV.cell : AV → Bool
  | .any | .agg _ | .tup _ => false
  | .raw v => v.oneCell'
  | _ => true
theorem AV.cell_rep {I : G} {x : AV} {v : Value} (h : RepV I x v) (hc : x.cell = true) : v.oneCell' = true := by
  cases x <;> simp only [RepV, AV.cell] at h hc
  all_goals first
    | (cases hc; done)
    | exact h.1
    | (subst h; first | rfl | exact hc)
    | (obtain ⟨_, _, _, e, _⟩ := h; subst e; rfl)
    | (obtain ⟨_, _, e, _⟩ := h; subst e; rfl)
    | (obtain ⟨_, _, _, e⟩ := h; subst e; rfl)
    | (obtain ⟨_, e, _⟩ := h; subst e; rfl)

/-! ### Slots -/
abbrev AEnv := Nat → AV
def RepE (I : G) (e : AEnv) (ρ : Env) : Prop := ∀ t, RepV I (e t) (ρ t)
def aupd (e : AEnv) (d : Nat) (v : AV) : AEnv := fun t => bif Nat.beq t d then v else e t
def aupdO (e : AEnv) (d : Option Nat) (v : AV) : AEnv := match d with | some d => aupd e d v | none => e
def aev (e : AEnv) : Operand → AV
  | .tmp t => e t
  | .const (.bool b) => .bool b
  | .const (.int k n) => .int k n
  | .const (.string s) => .str s
  | .const v => .raw v
  | .global g => .raw (.pointer (some ⟨g, 0, none⟩))
  | .func f => .fn f [] []
theorem RepE.upd {I : G} {e : AEnv} {ρ : Env} (h : RepE I e ρ) (d : Nat) {x : AV} {v : Value} (hx : RepV I x v) : RepE I (aupd e d x) (upd ρ d v) := fun t => by
  unfold aupd Go.Proofs.YtlfhoiakmbcnlaaDoor.upd
  cases Nat.beq t d
  · exact h t
  · exact hx
theorem RepE.updO {I : G} {e : AEnv} {ρ : Env} (h : RepE I e ρ) (d : Option Nat) {x : AV} {v : Value} (hx : RepV I x v) : RepE I (aupdO e d x) (updO ρ d v) := by
  cases d with
  | none => exact h
  | some d => exact h.upd d hx
theorem RepE.ev {I : G} {e : AEnv} {ρ : Env} (h : RepE I e ρ) : ∀ x, RepV I (aev e x) (ev ρ x)
  | .tmp t => h t
  | .const v => by cases v <;> exact rfl
  | .global _ => rfl
  | .func _ => ⟨[], [], rfl, rfl, rfl⟩
theorem RepE.mono {I J : G} {e : AEnv} {ρ : Env} (hl : I.le J) (h : RepE I e ρ) : RepE J e ρ := fun t => RepV.mono hl _ _ (h t)
theorem RepE.evs {I : G} {e : AEnv} {ρ : Env} (h : RepE I e ρ) : ∀ l : List Operand, RepL I (l.map (aev e)) (l.map (Go.Proofs.YtlfhoiakmbcnlaaDoor.ev ρ))
  | [] => rfl
  | x :: l => ⟨_, _, rfl, h.ev x, h.evs l⟩

/-! ### What is owned -/
inductive AObj where
  | cells (T : TypeId) (cs : List AV)
  | grow (k : Nat) (T : TypeId) (cs : List AV)
  | iter (s : ByteArray) (p : Nat)
  | heap (p : List (Nat × Obj) → Prop)
  deriving Inhabited
abbrev OL := List (Nat × AObj)

def RepO (I : G) (x : Nat × AObj) (L : List (Nat × Obj)) : Prop :=
  match x.2 with
  | .cells T cs => ∃ b c vs, I.h x.1 = some (some b, c) ∧ RepL I cs vs ∧ (∀ u ∈ vs, u.oneCell' = true) ∧ L = [(b, .cells vs.toArray T (0, 0))]
  | .grow k T cs => ∃ b c n vs, I.h x.1 = some (b, c) ∧ RepL I cs vs ∧ (∀ u ∈ vs, u.oneCell' = true) ∧ OwnS k T (adr b) n c vs L
  | .iter s p => ∃ b c, I.h x.1 = some (some b, c) ∧ L = [(b, .stringIter s p)]
  | .heap p => p L
def RepOs (I : G) : OL → List (Nat × Obj) → Prop
  | [], L => L = []
  | x :: xs, L => ∃ A B, L = A ++ B ∧ RepO I x A ∧ RepOs I xs B

theorem RepO.mono {I J : G} (h : I.le J) {x : Nat × AObj} {L : List (Nat × Obj)} (hx : RepO I x L) : RepO J x L := by
  obtain ⟨i, o⟩ := x
  cases o <;> simp only [RepO] at *
  · obtain ⟨b, c, vs, h1, h2, h3⟩ := hx; exact ⟨b, c, vs, h.h _ _ h1, RepL.mono h _ _ h2, h3⟩
  · obtain ⟨b, c, n, vs, h1, h2, h3⟩ := hx; exact ⟨b, c, n, vs, h.h _ _ h1, RepL.mono h _ _ h2, h3⟩
  · obtain ⟨b, c, h1, h2⟩ := hx; exact ⟨b, c, h.h _ _ h1, h2⟩
  · exact hx
theorem RepOs.mono {I J : G} (h : I.le J) : ∀ {O : OL} {L : List (Nat × Obj)}, RepOs I O L → RepOs J O L
  | [], _, e => e
  | _ :: _, _, ⟨A, B, e, h1, h2⟩ => ⟨A, B, e, h1.mono h, RepOs.mono h h2⟩
theorem RepOs.append {I : G} : ∀ {O O' : OL} {L : List (Nat × Obj)}, RepOs I (O ++ O') L ↔ ∃ A B, L = A ++ B ∧ RepOs I O A ∧ RepOs I O' B
  | [], O', L => ⟨fun h => ⟨[], L, rfl, rfl, h⟩, fun ⟨A, B, e, h1, h2⟩ => by
      have h1 : A = [] := h1
      subst h1; subst e; exact h2⟩
  | x :: O, O', L => by
    constructor
    · rintro ⟨A, B, e, h1, h2⟩
      obtain ⟨C, D, e2, h3, h4⟩ := RepOs.append.1 h2
      exact ⟨A ++ C, D, by simp [e, e2], ⟨A, C, rfl, h1, h3⟩, h4⟩
    · rintro ⟨A, B, e, ⟨C, D, e2, h1, h2⟩, h3⟩
      exact ⟨C, D ++ B, by simp [e, e2], h1, RepOs.append.2 ⟨D, B, rfl, h2, h3⟩⟩

/-- The world: what is owned is `O`; beside it stands `F`, which nobody touches. -/
def SLA (I : G) (O : OL) (F : List (Nat × Obj)) (E w : World) : Prop :=
  (∃ top, ∀ i, top ≤ i → I.h i = none) ∧ ∃ L, RepOs I O L ∧ SL I.k (L ++ F) E w

/-- `x` stands in `O`; without it `O'` is left. -/
inductive Pick : OL → Nat → AObj → OL → Prop
  | head {i o O} : Pick ((i, o) :: O) i o O
  | tail {x O i o O'} : Pick O i o O' → Pick (x :: O) i o (x :: O')
/-- `x` stands in `O`; with `o'` in its place it is `O'`. -/
inductive Put : OL → Nat → AObj → AObj → OL → Prop
  | head {i o o' O} : Put ((i, o) :: O) i o o' ((i, o') :: O)
  | tail {x O i o o' O'} : Put O i o o' O' → Put (x :: O) i o o' (x :: O')

theorem Pick.rep {I : G} {O O' : OL} {i : Nat} {o : AObj} (h : Pick O i o O') : ∀ {L}, RepOs I O L → ∃ A B, L.Perm (A ++ B) ∧ RepO I (i, o) A ∧ RepOs I O' B := by
  induction h with
  | head => rintro L ⟨A, B, e, h1, h2⟩; exact ⟨A, B, e ▸ .refl _, h1, h2⟩
  | tail h ih =>
    rintro L ⟨A, B, e, h1, h2⟩
    obtain ⟨C, D, hp, h3, h4⟩ := ih h2
    refine ⟨C, A ++ D, ?_, h3, ⟨A, D, rfl, h1, h4⟩⟩
    subst e
    refine (hp.append_left A).trans ?_
    rw [← List.append_assoc, ← List.append_assoc]
    exact List.perm_append_comm.append_right D
theorem Put.rep {I : G} {O O' : OL} {i : Nat} {o o' : AObj} (h : Put O i o o' O') : ∀ {L}, RepOs I O L → ∃ A B, L.Perm (A ++ B) ∧ RepO I (i, o) A ∧
    ∀ {J : G} {A'}, I.le J → RepO J (i, o') A' → ∃ L', RepOs J O' L' ∧ L'.Perm (A' ++ B) := by
  induction h with
  | head => rintro L ⟨A, B, e, h1, h2⟩; exact ⟨A, B, e ▸ .refl _, h1, fun {J A'} hl h => ⟨A' ++ B, ⟨A', B, rfl, h, h2.mono hl⟩, .refl _⟩⟩
  | tail h ih =>
    rintro L ⟨A, B, e, h1, h2⟩
    obtain ⟨C, D, hp, h3, h4⟩ := ih h2
    refine ⟨C, A ++ D, ?_, h3, fun {J A'} hl h => ?_⟩
    · subst e
      refine (hp.append_left A).trans ?_
      rw [← List.append_assoc, ← List.append_assoc]
      exact List.perm_append_comm.append_right D
    · obtain ⟨L', h5, h6⟩ := h4 hl h
      refine ⟨A ++ L', ⟨A, L', rfl, h1.mono hl, h5⟩, ?_⟩
      refine (h6.append_left A).trans ?_
      rw [← List.append_assoc, ← List.append_assoc]
      exact List.perm_append_comm.append_right D


/-- Some of what is owned is given up. -/
inductive Sub : OL → OL → Prop
  | refl (O) : Sub O O
  | keep {x O O'} : Sub O O' → Sub (x :: O) (x :: O')
  | drop {x O O'} : Sub O O' → Sub (x :: O) O'
theorem RepOs.sub {I : G} {O O' : OL} (h : Sub O O') : ∀ {L}, RepOs I O L → ∃ L', RepOs I O' L' ∧ L'.Sublist L := by
  induction h with
  | refl => intro L h; exact ⟨L, h, .refl _⟩
  | keep _ ih => rintro L ⟨A, B, e, h1, h2⟩; obtain ⟨B', h3, h4⟩ := ih h2; exact ⟨A ++ B', ⟨A, B', rfl, h1, h3⟩, e ▸ h4.append_left A⟩
  | drop _ ih => rintro L ⟨A, B, e, h1, h2⟩; obtain ⟨B', h3, h4⟩ := ih h2; exact ⟨B', h3, e ▸ h4.trans (List.sublist_append_right A B)⟩
theorem SLA.sub {I : G} {O O' : OL} {F : List (Nat × Obj)} {E w : World} (h : Sub O O') (hs : SLA I O F E w) : SLA I O' F E w := by
  obtain ⟨ht, L, hL, hS⟩ := hs
  obtain ⟨L', h1, h2⟩ := hL.sub h
  exact ⟨ht, L', h1, hS.sub (h2.append_right F)⟩
/-- What is left when some is given up. -/
def Left (O O' : OL) : Prop := ∃ O'', Sub O O'' ∧ O'' = O'
theorem Left.sla {I : G} {O O' : OL} {F : List (Nat × Obj)} {E w : World} (h : Left O O') (hs : SLA I O F E w) : SLA I O' F E w := by
  obtain ⟨_, h1, rfl⟩ := h; exact hs.sub h1

end Go.Proofs.YtlfhoiakmbcnlaaDoor
