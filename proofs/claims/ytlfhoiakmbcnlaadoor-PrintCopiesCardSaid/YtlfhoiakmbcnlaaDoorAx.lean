/- What each operation gives, of slots that are told as plain data. No conditions. -/
import Derived.Test.YtlfhoiakmbcnlaaDoorAw
namespace Go.Proofs.YtlfhoiakmbcnlaaDoor

section
variable {E : World} {P : Program} {env : AEnv} {O : OL} {d ty : Nat} {pos : String} {af : Array Edge} {x y z : Operand} {t u e : TypeId}

theorem Gv.ofEv {op : Op} {v : AV} (h : ∀ (I : G) ρ, RepE I env ρ → ∃ u, RepV I v u ∧ ∀ w, (execOp (ev ρ) (Oper.mk (some d) op ty pos af none)).run P w = .ok (.value u) w) : Gv P env O (Oper.mk (some d) op ty pos af none) v :=
  fun I _ _ ρ h1 _ => let ⟨u, h2, h3⟩ := h I ρ h1; ⟨u, h2, fun w _ _ _ _ _ => h3 w⟩

theorem Gv.move {v : AV} (hx : aev env x = v) : Gv P env O (Oper.mk (some d) (.move x) ty pos af none) v := Gv.ofEv fun I ρ h => ⟨ev ρ x, hx ▸ h.ev x, fun _ => rfl⟩
theorem Gv.assign {v : AV} (hx : aev env x = v) : Gv P env O (Oper.mk (some d) (.assign x) ty pos af none) v := Gv.ofEv fun I ρ h => ⟨ev ρ x, hx ▸ h.ev x, fun _ => rfl⟩

theorem evB {I : G} {ρ : Env} {b : Bool} (h : RepE I env ρ) (hx : aev env x = .bool b) : ev ρ x = .bool b := by have := h.ev x; rw [hx] at this; exact this
theorem evI {I : G} {ρ : Env} {k : IntKind} {n : Int} (h : RepE I env ρ) (hx : aev env x = .int k n) : ev ρ x = .int k n := by have := h.ev x; rw [hx] at this; exact this
theorem evT {I : G} {ρ : Env} {s : ByteArray} (h : RepE I env ρ) (hx : aev env x = .str s) : ev ρ x = .string s := by have := h.ev x; rw [hx] at this; exact this
theorem evRaw {I : G} {ρ : Env} {v : Value} (h : RepE I env ρ) (hx : aev env x = .raw v) : ev ρ x = v := by have := h.ev x; rw [hx] at this; exact this

theorem Gv.pickT {b : Bool} {v : AV} (hc : aev env x = .bool b) (hb : b = true) (hy : aev env y = v) : Gv P env O (Oper.mk (some d) (.pick x y z) ty pos af none) v :=
  Gv.ofEv fun I ρ h => ⟨ev ρ y, hy ▸ h.ev y, fun _ => Run.pickT (evB h hc) hb rfl⟩
theorem Gv.pickF {b : Bool} {v : AV} (hc : aev env x = .bool b) (hb : b = false) (hy : aev env z = v) : Gv P env O (Oper.mk (some d) (.pick x y z) ty pos af none) v :=
  Gv.ofEv fun I ρ h => ⟨ev ρ z, hy ▸ h.ev z, fun _ => Run.pickF (evB h hc) hb rfl⟩

theorem Gv.lss {k : IntKind} {a b : Int} (hx : aev env x = .int k a) (hy : aev env y = .int k b) : Gv P env O (Oper.mk (some d) (.binOp .lss t x y u) ty pos af none) (.bool (decide (a < b))) := Gv.ofEv fun I ρ h => ⟨_, rfl, fun _ => Run.lss (evI h hx) (evI h hy)⟩
theorem Gv.leq {k : IntKind} {a b : Int} (hx : aev env x = .int k a) (hy : aev env y = .int k b) : Gv P env O (Oper.mk (some d) (.binOp .leq t x y u) ty pos af none) (.bool (decide (a ≤ b))) := Gv.ofEv fun I ρ h => ⟨_, rfl, fun _ => Run.leq (evI h hx) (evI h hy)⟩
theorem Gv.gtr {k : IntKind} {a b : Int} (hx : aev env x = .int k a) (hy : aev env y = .int k b) : Gv P env O (Oper.mk (some d) (.binOp .gtr t x y u) ty pos af none) (.bool (decide (b < a))) := Gv.ofEv fun I ρ h => ⟨_, rfl, fun _ => Run.gtr (evI h hx) (evI h hy)⟩
theorem Gv.geq {k : IntKind} {a b : Int} (hx : aev env x = .int k a) (hy : aev env y = .int k b) : Gv P env O (Oper.mk (some d) (.binOp .geq t x y u) ty pos af none) (.bool (decide (b ≤ a))) := Gv.ofEv fun I ρ h => ⟨_, rfl, fun _ => Run.geq (evI h hx) (evI h hy)⟩
theorem Gv.eqlI {k : IntKind} {a b : Int} (hx : aev env x = .int k a) (hy : aev env y = .int k b) : Gv P env O (Oper.mk (some d) (.binOp .eql t x y u) ty pos af none) (.bool (decide (a = b))) := Gv.ofEv fun I ρ h => ⟨_, rfl, fun _ => Run.eqlI (evI h hx) (evI h hy)⟩
theorem Gv.neqI {k : IntKind} {a b : Int} (hx : aev env x = .int k a) (hy : aev env y = .int k b) : Gv P env O (Oper.mk (some d) (.binOp .neq t x y u) ty pos af none) (.bool (!decide (a = b))) := Gv.ofEv fun I ρ h => ⟨_, rfl, fun _ => by rw [← decide_not]; exact Run.neqI (evI h hx) (evI h hy)⟩
theorem Gv.add {a b : Int} (hx : aev env x = .int .i64 a) (hy : aev env y = .int .i64 b) (hr : I64 (a + b)) : Gv P env O (Oper.mk (some d) (.binOp .add t x y u) ty pos af none) (.int .i64 (a + b)) := Gv.ofEv fun I ρ h => ⟨_, rfl, fun _ => Run.add (evI h hx) (evI h hy) hr⟩
theorem Gv.sub {a b : Int} (hx : aev env x = .int .i64 a) (hy : aev env y = .int .i64 b) (hr : I64 (a - b)) : Gv P env O (Oper.mk (some d) (.binOp .sub t x y u) ty pos af none) (.int .i64 (a - b)) := Gv.ofEv fun I ρ h => ⟨_, rfl, fun _ => Run.sub (evI h hx) (evI h hy) hr⟩
theorem Gv.mul {a b : Int} (hx : aev env x = .int .i64 a) (hy : aev env y = .int .i64 b) (hr : I64 (a * b)) : Gv P env O (Oper.mk (some d) (.binOp .mul t x y u) ty pos af none) (.int .i64 (a * b)) := Gv.ofEv fun I ρ h => ⟨_, rfl, fun _ => Run.mul (evI h hx) (evI h hy) hr⟩
theorem Gv.addW {k : IntKind} {a b : Int} (hx : aev env x = .int k a) (hy : aev env y = .int k b) : Gv P env O (Oper.mk (some d) (.binOp .add t x y u) ty pos af none) (.int k (k.wrap (a + b))) := Gv.ofEv fun I ρ h => ⟨_, rfl, fun _ => Run.addW (evI h hx) (evI h hy)⟩
theorem Gv.subW {k : IntKind} {a b : Int} (hx : aev env x = .int k a) (hy : aev env y = .int k b) : Gv P env O (Oper.mk (some d) (.binOp .sub t x y u) ty pos af none) (.int k (k.wrap (a - b))) := Gv.ofEv fun I ρ h => ⟨_, rfl, fun _ => Run.subW (evI h hx) (evI h hy)⟩
theorem Gv.mulW {k : IntKind} {a b : Int} (hx : aev env x = .int k a) (hy : aev env y = .int k b) : Gv P env O (Oper.mk (some d) (.binOp .mul t x y u) ty pos af none) (.int k (k.wrap (a * b))) := Gv.ofEv fun I ρ h => ⟨_, rfl, fun _ => Run.mulW (evI h hx) (evI h hy)⟩
theorem Gv.not {b : Bool} (hx : aev env x = .bool b) : Gv P env O (Oper.mk (some d) (.unOp .not t x) ty pos af none) (.bool (!b)) := Gv.ofEv fun I ρ h => ⟨_, rfl, fun _ => Run.not (evB h hx)⟩
theorem Gv.eqlT {a b : ByteArray} (hx : aev env x = .str a) (hy : aev env y = .str b) : Gv P env O (Oper.mk (some d) (.binOp .eql t x y u) ty pos af none) (.bool (decide (a = b))) := Gv.ofEv fun I ρ h => ⟨_, rfl, fun _ => Run.eqlT (evT h hx) (evT h hy)⟩
theorem Gv.neqT {a b : ByteArray} (hx : aev env x = .str a) (hy : aev env y = .str b) : Gv P env O (Oper.mk (some d) (.binOp .neq t x y u) ty pos af none) (.bool (!decide (a = b))) := Gv.ofEv fun I ρ h => ⟨_, rfl, fun _ => Run.neqT (evT h hx) (evT h hy)⟩
theorem Gv.eqlB {a b : Bool} (ht : P.underlying t = some .bool) (hx : aev env x = .bool a) (hy : aev env y = .bool b) : Gv P env O (Oper.mk (some d) (.binOp .eql t x y u) ty pos af none) (.bool (a == b)) := Gv.ofEv fun I ρ h => ⟨_, rfl, fun _ => Run.eqlB ht (evB h hx) (evB h hy)⟩
theorem Gv.neqB {a b : Bool} (ht : P.underlying t = some .bool) (hx : aev env x = .bool a) (hy : aev env y = .bool b) : Gv P env O (Oper.mk (some d) (.binOp .neq t x y u) ty pos af none) (.bool (!(a == b))) := Gv.ofEv fun I ρ h => ⟨_, rfl, fun _ => Run.neqB ht (evB h hx) (evB h hy)⟩
theorem Gv.addT {a b : ByteArray} (hx : aev env x = .str a) (hy : aev env y = .str b) (hl : a.size + b.size ≤ 140737488355328) : Gv P env O (Oper.mk (some d) (.binOp .add t x y u) ty pos af none) (.str (a ++ b)) := Gv.ofEv fun I ρ h => ⟨_, rfl, fun _ => by
  have : ¬ (((a.size + b.size : Nat) : Int) > IntKind.i64.max) := by
    have : IntKind.i64.max = 9223372036854775807 := by rfl
    rw [this]; omega
  have he : ∀ w, (eqGuard .add t x y (.string a) (.string b)).run P w = .ok () w := fun w => rfl
  simp only [execOp, evT h hx, evT h hy]
  simp only [Sem.run_bind, he, Result.andThen]
  simp [binOp, Op.stringOp]
  have h2 : ¬ ((a.size : Int) + b.size > IntKind.i64.max) := by simpa using this
  simp at h2
  rw [if_neg (by omega)]⟩

theorem Gv.extract {vs : List AV} {i : Nat} {v : AV} (hx : aev env x = .tup vs) (hv : vs[i]? = some v) : Gv P env O (Oper.mk (some d) (.extract x i) ty pos af none) v := Gv.ofEv fun I ρ h => by
  have := h.ev x
  rw [hx] at this
  obtain ⟨us, e, hr⟩ := this
  obtain ⟨u, hu, hru⟩ := hr.get hv
  exact ⟨u, hru, fun _ => Run.extract e (by simpa using hu)⟩

theorem Gv.nilCheckF {cs : List AV} (hx : aev env x = .pf cs) : Gv P env O (Oper.mk (some d) (.nilCheck x) ty pos af none) (.pf cs) := Gv.ofEv fun I ρ h => by
  have h2 := h.ev x
  rw [hx] at h2
  obtain ⟨b, off, vs, e, h3⟩ := id h2
  rw [e] at h2
  exact ⟨_, h2, fun _ => Run.nilCheck e⟩
theorem Gv.nilCheckO {i off : Nat} (hx : aev env x = .po i off) : Gv P env O (Oper.mk (some d) (.nilCheck x) ty pos af none) (.po i off) := Gv.ofEv fun I ρ h => by
  have h2 := h.ev x
  rw [hx] at h2
  obtain ⟨b, c, e1, e⟩ := id h2
  rw [e] at h2
  exact ⟨_, h2, fun _ => Run.nilCheck e⟩

theorem Gv.lenF {k : Nat} {rows : List (List AV)} (ht : P.underlying t = some (.slice e)) (hx : aev env x = .fro k rows) : Gv P env O (Oper.mk (some d) (.call { callee := .builtin .len, args := #[x], argTypes := #[t] }) ty pos af none) (.int .i64 rows.length) := Gv.ofEv fun I ρ h => by
  have h2 := h.ev x
  rw [hx] at h2
  obtain ⟨a, n, c, e, rfl, _⟩ := h2
  exact ⟨_, rfl, fun _ => Run.lenS ht e⟩
theorem Gv.lenM {α : Type} {enc : α → List AV} {xs : List α} {k : Nat} (ht : P.underlying t = some (.slice e)) (hx : aev env x = .fro k (xs.map enc)) : Gv P env O (Oper.mk (some d) (.call { callee := .builtin .len, args := #[x], argTypes := #[t] }) ty pos af none) (.int .i64 xs.length) := by
  have := Gv.lenF (d := d) (ty := ty) (pos := pos) (af := af) (O := O) ht hx
  rwa [List.length_map] at this
theorem Gv.lenO {i n : Nat} (ht : P.underlying t = some (.slice e)) (hx : aev env x = .own i n) : Gv P env O (Oper.mk (some d) (.call { callee := .builtin .len, args := #[x], argTypes := #[t] }) ty pos af none) (.int .i64 n) := Gv.ofEv fun I ρ h => by
  have h2 := h.ev x
  rw [hx] at h2
  obtain ⟨b, c, _, e⟩ := h2
  exact ⟨_, rfl, fun _ => Run.lenS ht e⟩
theorem Gv.lenR {a : Option Addr} {n c : Nat} (ht : P.underlying t = some (.slice e)) (hx : aev env x = .raw (.slice a n c)) : Gv P env O (Oper.mk (some d) (.call { callee := .builtin .len, args := #[x], argTypes := #[t] }) ty pos af none) (.int .i64 n) := Gv.ofEv fun I ρ h => ⟨_, rfl, fun _ => Run.lenS ht (evRaw h hx)⟩
theorem Gv.lenT {s : ByteArray} (ht : P.underlying t = some .string) (hx : aev env x = .str s) : Gv P env O (Oper.mk (some d) (.call { callee := .builtin .len, args := #[x], argTypes := #[t] }) ty pos af none) (.int .i64 s.size) := Gv.ofEv fun I ρ h => ⟨_, rfl, fun _ => Run.lenT ht (evT h hx)⟩

/-! memory that is read -/
theorem Gv.load1F {c : AV} {cs : List AV} (ha : ∀ w, (isAgg t).run P w = .ok false w) (hx : aev env x = .pf (c :: cs)) : Gv P env O (Oper.mk (some d) (.load t x) ty pos af none) c := fun I L E ρ h1 _ => by
  have h2 := h1.ev x
  rw [hx] at h2
  obtain ⟨b, off, vs, e, ⟨v, us, e2, h3, h4⟩, h5⟩ := h2
  subst e2
  exact ⟨v, h3, fun w J L' hl hS _ => Run.load1 ha hS e ((h5 0 v rfl).mono hl |>.at_ _)⟩
theorem Gv.loadAF {n : Nat} {cs l : List AV} (ha : ∀ w, (isAgg t).run P w = .ok true w) (hs : ∀ w, (sizeOf t).run P w = .ok n w) (hx : aev env x = .pf cs) (hn : Nat.ble n cs.length = true) (hl : cs.take n = l) : Gv P env O (Oper.mk (some d) (.load t x) ty pos af none) (.agg l) := fun I L E ρ h1 _ => by
  have h2 := h1.ev x
  rw [hx] at h2
  obtain ⟨b, off, vs, e, h3, h5⟩ := h2
  refine ⟨.agg (vs.take n).toArray, ⟨_, rfl, hl ▸ h3.take n⟩, fun w J L' hk hS _ => Run.loadA ha ?_ hS e ?_⟩
  · have hn := Nat.le_of_ble_eq_true hn
    have := h3.length
    rw [List.length_take, Nat.min_eq_left (by omega)]; exact hs
  · intro j v hj
    rw [List.getElem?_take] at hj
    split at hj
    · exact ((h5 j v hj).mono hk).at_ _
    · cases hj
theorem Gv.loadWF {n : Nat} {cs : List AV} (ha : ∀ w, (isAgg t).run P w = .ok true w) (hs : ∀ w, (sizeOf t).run P w = .ok n w) (hx : aev env x = .pf cs) (hn : cs.length = n) : Gv P env O (Oper.mk (some d) (.load t x) ty pos af none) (.agg cs) :=
  Gv.loadAF ha hs hx (by rw [hn]; simp) (by rw [← hn]; simp)

theorem Gv.fieldF {fs : Array Field} {f : Field} {i sz : Nat} {cs cs' : List AV} (ht : P.underlying t = some (.struct fs)) (hf : fs[i]? = some f) (hs : ∀ w, (sizeOf f.type).run P w = .ok sz w) (hz : sz ≠ 0)
    (hx : aev env x = .pf cs) (hr : cs.drop f.offset = cs') : Gv P env O (Oper.mk (some d) (.fieldAddr t x i) ty pos af none) (.pf cs') := fun I L E ρ h1 _ => by
  have h2 := h1.ev x
  rw [hx] at h2
  obtain ⟨b, off, vs, e, h3, h5⟩ := h2
  refine ⟨.pointer (some ⟨b, off + f.offset, none⟩), ⟨b, _, vs.drop f.offset, rfl, hr ▸ h3.drop _, fun j u hj => ?_⟩, fun w J L' _ _ _ => Run.field ht hf hs hz e rfl⟩
  rw [List.getElem?_drop] at hj
  have := h5 _ _ hj
  rwa [← Nat.add_assoc] at this
theorem Gv.fieldO {fs : Array Field} {f : Field} {i id off r sz : Nat} (ht : P.underlying t = some (.struct fs)) (hf : fs[i]? = some f) (hs : ∀ w, (sizeOf f.type).run P w = .ok sz w) (hz : sz ≠ 0)
    (hx : aev env x = .po id off) (hr : off + f.offset = r) : Gv P env O (Oper.mk (some d) (.fieldAddr t x i) ty pos af none) (.po id r) := fun I L E ρ h1 _ => by
  have h2 := h1.ev x
  rw [hx] at h2
  obtain ⟨b, c, e1, e⟩ := h2
  exact ⟨_, ⟨b, c, e1, rfl⟩, fun w J L' _ _ _ => Run.field ht hf hs hz e hr⟩

theorem Gv.idxF {k j : Nat} {i : Int} {rows : List (List AV)} {r : List AV} (ht : P.underlying t = some (.slice e)) (hs : ∀ w, (sizeOf e).run P w = .ok k w) (hx : aev env x = .fro k rows) (hy : aev env y = .int .i64 i) (hi : i = (j : Int)) (hj : rows[j]? = some r) :
    Gv P env O (Oper.mk (some d) (.indexAddr t x y) ty pos af none) (.pf r) := fun I L E ρ h1 _ => by
  have h2 := h1.ev x
  rw [hx] at h2
  obtain ⟨a, n, c, ex, hn, _, _, h3⟩ := h2
  obtain ⟨b, off, vs, rfl, h4, h5, h6⟩ := h3.get hj
  have hlt : j < n := by rw [hn]; exact (List.getElem?_eq_some_iff.1 hj).1
  refine ⟨.pointer (some ⟨b, off + j * k, none⟩), ⟨b, _, vs, rfl, h5, fun i u hu => ?_⟩, fun w J L' _ _ _ => Run.idx ht hs ex (evI h1 hy) hi hlt⟩
  have := h6 i u hu
  rwa [Nat.zero_add] at this
theorem Gv.idxM {α : Type} {enc : α → List AV} {xs : List α} {k j : Nat} {i : Int} {v : α} (ht : P.underlying t = some (.slice e)) (hs : ∀ w, (sizeOf e).run P w = .ok k w) (hx : aev env x = .fro k (xs.map enc)) (hy : aev env y = .int .i64 i) (hi : i = (j : Int)) (hj : xs[j]? = some v) :
    Gv P env O (Oper.mk (some d) (.indexAddr t x y) ty pos af none) (.pf (enc v)) := Gv.idxF ht hs hx hy hi (by rw [List.getElem?_map, hj]; rfl)
end

/-! ### What is owned and read -/
def Has (O : OL) (i : Nat) (o : AObj) : Prop := ∃ O', Pick O i o O'
theorem Has.head {O : OL} {i : Nat} {o : AObj} : Has ((i, o) :: O) i o := ⟨_, .head⟩
theorem Has.tail {O : OL} {x : Nat × AObj} {i : Nat} {o : AObj} (h : Has O i o) : Has (x :: O) i o := let ⟨O', h⟩ := h; ⟨_, .tail h⟩
theorem Pick.has {O O' : OL} {i : Nat} {o : AObj} (h : Pick O i o O') : Has O i o := ⟨_, h⟩
theorem Has.cells {I : G} {O : OL} {L : List (Nat × Obj)} {i : Nat} {T : TypeId} {cs : List AV} (h : Has O i (.cells T cs)) (hL : RepOs I O L) : ∃ b c vs, I.h i = some (some b, c) ∧ RepL I cs vs ∧ (b, Obj.cells vs.toArray T (0, 0)) ∈ L := by
  obtain ⟨O', h⟩ := h
  obtain ⟨A, B, hp, h1, _⟩ := h.rep hL
  obtain ⟨b, c, vs, h2, h3, _, rfl⟩ := h1
  exact ⟨b, c, vs, h2, h3, hp.mem_iff.2 (by simp)⟩
theorem Has.grow {I : G} {O : OL} {L : List (Nat × Obj)} {i k : Nat} {T : TypeId} {cs : List AV} (h : Has O i (.grow k T cs)) (hL : RepOs I O L) (hne : cs ≠ []) : ∃ b c vs junk, I.h i = some (some b, c) ∧ RepL I cs vs ∧ (b, Obj.cells (vs ++ junk).toArray T (0, 0)) ∈ L := by
  obtain ⟨O', h⟩ := h
  obtain ⟨A, B, hp, h1, _⟩ := h.rep hL
  obtain ⟨b, c, n, vs, h2, h3, _, h4, h5, h6⟩ := h1
  rcases h6 with ⟨_, h6, _⟩ | ⟨b', junk, e, e2, h6⟩
  · have := h3.length
    have : n = 0 := by omega
    subst this
    simp at h4
    subst h4
    simp at this
    exact absurd this.symm (by simpa using hne)
  · cases b with
    | none => simp [adr] at e
    | some b =>
      simp [adr] at e
      subst e e2
      exact ⟨b, c, vs, junk, h2, h3, hp.mem_iff.2 (by simp)⟩

section
variable {E : World} {P : Program} {env : AEnv} {O : OL} {d ty : Nat} {pos : String} {af : Array Edge} {x y z : Operand} {t u e : TypeId}

theorem Gv.load1C {i off : Nat} {T : TypeId} {c : AV} {cs tl : List AV} (ha : ∀ w, (isAgg t).run P w = .ok false w) (hx : aev env x = .po i off) (hO : Has O i (.cells T cs)) (hv : cs.drop off = c :: tl) : Gv P env O (Oper.mk (some d) (.load t x) ty pos af none) c := fun I L E ρ h1 hL => by
  have h2 := h1.ev x
  rw [hx] at h2
  obtain ⟨b, k, e1, e⟩ := h2
  obtain ⟨b', k', vs, e2, h3, hm⟩ := hO.cells hL
  rw [e1] at e2; cases e2
  have h4 := h3.drop off
  rw [hv] at h4
  obtain ⟨v, us, e5, h6, h7⟩ := h4
  exact ⟨v, h6, fun w J L' hl hS hsub => Run.load1 ha hS e (.inr ⟨_, _, _, hsub _ hm, by rw [List.getElem?_toArray]; exact drop_get e5⟩)⟩
theorem Gv.loadAC {i off n : Nat} {T : TypeId} {cs l : List AV} (ha : ∀ w, (isAgg t).run P w = .ok true w) (hs : ∀ w, (sizeOf t).run P w = .ok n w) (hx : aev env x = .po i off) (hO : Has O i (.cells T cs)) (hn : Nat.ble (off + n) cs.length = true) (hl : (cs.drop off).take n = l) :
    Gv P env O (Oper.mk (some d) (.load t x) ty pos af none) (.agg l) := fun I L E ρ h1 hL => by
  have h2 := h1.ev x
  rw [hx] at h2
  obtain ⟨b, k, e1, e⟩ := h2
  obtain ⟨b', k', vs, e2, h3, hm⟩ := hO.cells hL
  rw [e1] at e2; cases e2
  refine ⟨.agg ((vs.drop off).take n).toArray, ⟨_, rfl, hl ▸ (h3.drop off).take n⟩, fun w J L' hk hS hsub => Run.loadA ha ?_ hS e ?_⟩
  · have hn := Nat.le_of_ble_eq_true hn
    have := h3.length
    rw [List.length_take, List.length_drop, Nat.min_eq_left (by omega)]; exact hs
  · intro j v hj
    rw [List.getElem?_take] at hj
    split at hj
    · rw [List.getElem?_drop] at hj
      exact .inr ⟨_, _, _, hsub _ hm, by rw [List.getElem?_toArray]; exact hj⟩
    · cases hj
theorem Gv.loadWC {i n : Nat} {T : TypeId} {cs : List AV} (ha : ∀ w, (isAgg t).run P w = .ok true w) (hs : ∀ w, (sizeOf t).run P w = .ok n w) (hx : aev env x = .po i 0) (hO : Has O i (.cells T cs)) (hn : cs.length = n) : Gv P env O (Oper.mk (some d) (.load t x) ty pos af none) (.agg cs) :=
  Gv.loadAC ha hs hx hO (by rw [hn]; simp) (by rw [← hn]; simp)
theorem Gv.load1G {i off k : Nat} {T : TypeId} {c : AV} {cs tl : List AV} (ha : ∀ w, (isAgg t).run P w = .ok false w) (hx : aev env x = .po i off) (hO : Has O i (.grow k T cs)) (hv : cs.drop off = c :: tl) : Gv P env O (Oper.mk (some d) (.load t x) ty pos af none) c := fun I L E ρ h1 hL => by
  have h2 := h1.ev x
  rw [hx] at h2
  obtain ⟨b, k, e1, e⟩ := h2
  obtain ⟨b', k', vs, junk, e2, h3, hm⟩ := hO.grow hL (by intro h; subst h; simp at hv)
  rw [e1] at e2; cases e2
  have h4 := h3.drop off
  rw [hv] at h4
  obtain ⟨v, us, e5, h6, h7⟩ := h4
  exact ⟨v, h6, fun w J L' hl hS hsub => Run.load1 ha hS e (.inr ⟨_, _, _, hsub _ hm, by
    have := drop_get e5
    rw [List.getElem?_toArray, List.getElem?_append_left (List.getElem?_eq_some_iff.1 this).1]; exact this⟩)⟩
theorem Gv.loadAG {i off n k : Nat} {T : TypeId} {cs l : List AV} (ha : ∀ w, (isAgg t).run P w = .ok true w) (hs : ∀ w, (sizeOf t).run P w = .ok n w) (hx : aev env x = .po i off) (hO : Has O i (.grow k T cs)) (hne : cs ≠ []) (hn : off + n ≤ cs.length) (hl : (cs.drop off).take n = l) :
    Gv P env O (Oper.mk (some d) (.load t x) ty pos af none) (.agg l) := fun I L E ρ h1 hL => by
  have h2 := h1.ev x
  rw [hx] at h2
  obtain ⟨b, k, e1, e⟩ := h2
  obtain ⟨b', k', vs, junk, e2, h3, hm⟩ := hO.grow hL hne
  rw [e1] at e2; cases e2
  refine ⟨.agg ((vs.drop off).take n).toArray, ⟨_, rfl, hl ▸ (h3.drop off).take n⟩, fun w J L' hk hS hsub => Run.loadA ha ?_ hS e ?_⟩
  · have := h3.length
    rw [List.length_take, List.length_drop, Nat.min_eq_left (by omega)]; exact hs
  · intro j v hj
    rw [List.getElem?_take] at hj
    split at hj
    · rw [List.getElem?_drop] at hj
      exact .inr ⟨_, _, _, hsub _ hm, by rw [List.getElem?_toArray, List.getElem?_append_left (List.getElem?_eq_some_iff.1 hj).1]; exact hj⟩
    · cases hj
/-- A place of a slice of one's own. -/
theorem Gv.idxO {i n k j : Nat} {a : Int} {T : TypeId} {cs : List AV} (ht : P.underlying t = some (.slice e)) (hs : ∀ w, (sizeOf e).run P w = .ok k w) (hx : aev env x = .own i n) (hy : aev env y = .int .i64 a) (hi : a = (j : Int)) (hO : Has O i (.grow k T cs)) (hne : cs ≠ []) (hj : j < n) :
    Gv P env O (Oper.mk (some d) (.indexAddr t x y) ty pos af none) (.po i (j * k)) := fun I L E ρ h1 hL => by
  have h2 := h1.ev x
  rw [hx] at h2
  obtain ⟨b, c, e1, e⟩ := h2
  obtain ⟨b', k', vs, junk, e2, _⟩ := hO.grow hL hne
  rw [e1] at e2; cases e2
  refine ⟨.pointer (some ⟨b', 0 + j * k, none⟩), ⟨b', _, e1, by rw [Nat.zero_add]⟩, fun w J L' _ _ _ => Run.idx ht hs e (evI h1 hy) hi hj⟩
end
end Go.Proofs.YtlfhoiakmbcnlaaDoor
