/- One rule for each operation. No conditions. -/
import Derived.Test.YtlfhoiakmbcnlaaDoorMem
import Derived.WalkSpells
namespace Go.Proofs.YtlfhoiakmbcnlaaDoor

def I64 (x : Int) : Prop := -9223372036854775808 ≤ x ∧ x ≤ 9223372036854775807

section
variable {P : Program} {ops : Array Oper} {K : Env → World → Prop} {ρ : Env} {w : World} {rest : List Oper}
variable {d ty : Nat} {pos : String} {af : Array Edge} {x y z : Operand} {t u : TypeId}
variable {I : Ghost} {O : List (Nat × Obj)} {E : World}


theorem Ops.val {op : Op} {v : Value} (h : (execOp (ev ρ) (Oper.mk (some d) op ty pos af none)).run P w = .ok (.value v) w) (k : Ops P ops K rest (upd ρ d v) w) :
    Ops P ops K (Oper.mk (some d) op ty pos af none :: rest) ρ w :=
  Ops.step rfl (by unfold OpW; rw [h]; exact k)

theorem Ops.guardT {dd : Option Nat} {op : Op} {j s : Nat} {b t : Bool} (hs : (ops[j]?).bind (fun o : Oper => o.dst) = some s) (hv : ρ s = .bool t) (ht : t = b)
    (k : Ops P ops K (Oper.mk dd op ty pos af none :: rest) ρ w) : Ops P ops K (Oper.mk dd op ty pos af (some (j, b)) :: rest) ρ w := by
  subst ht
  unfold Ops at *
  rw [if_pos (by simp [wantedE])] at k
  rw [if_pos (by simp only [wantedE, hs, hv]; simp)]
  exact k

theorem Ops.guardF {dd : Option Nat} {op : Op} {j s : Nat} {b t : Bool} (hs : (ops[j]?).bind (fun o : Oper => o.dst) = some s) (hv : ρ s = .bool t) (ht : t = !b)
    (k : Ops P ops K rest (updO ρ dd undef) w) : Ops P ops K (Oper.mk dd op ty pos af (some (j, b)) :: rest) ρ w := by
  subst ht
  unfold Ops
  rw [if_neg (by simp only [wantedE, hs, hv]; cases b <;> simp)]
  exact k

theorem Ops.guardFd {op : Op} {j s : Nat} {b t : Bool} (hs : (ops[j]?).bind (fun o : Oper => o.dst) = some s) (hv : ρ s = .bool t) (ht : t = !b)
    (k : Ops P ops K rest (upd ρ d undef) w) : Ops P ops K (Oper.mk (some d) op ty pos af (some (j, b)) :: rest) ρ w := Ops.guardF hs hv ht k

theorem Ops.moveV {v : Value} (hx : ev ρ x = v) (k : Ops P ops K rest (upd ρ d v) w) : Ops P ops K (Oper.mk (some d) (.move x) ty pos af none :: rest) ρ w := by
  subst hx; exact Ops.val rfl k
theorem Ops.assignV {v : Value} (hx : ev ρ x = v) (k : Ops P ops K rest (upd ρ d v) w) : Ops P ops K (Oper.mk (some d) (.assign x) ty pos af none :: rest) ρ w := by
  subst hx; exact Ops.val rfl k

-- by the kind of what is moved: what it is is read off the slot
theorem Ops.moveI {k : IntKind} {a : Int} (hx : ev ρ x = .int k a) (h : Ops P ops K rest (upd ρ d (.int k a)) w) : Ops P ops K (Oper.mk (some d) (.move x) ty pos af none :: rest) ρ w := Ops.moveV hx h
theorem Ops.moveB {b : Bool} (hx : ev ρ x = .bool b) (h : Ops P ops K rest (upd ρ d (.bool b)) w) : Ops P ops K (Oper.mk (some d) (.move x) ty pos af none :: rest) ρ w := Ops.moveV hx h
theorem Ops.moveT {b : ByteArray} (hx : ev ρ x = .string b) (h : Ops P ops K rest (upd ρ d (.string b)) w) : Ops P ops K (Oper.mk (some d) (.move x) ty pos af none :: rest) ρ w := Ops.moveV hx h
theorem Ops.moveP {a : Option Addr} (hx : ev ρ x = .pointer a) (h : Ops P ops K rest (upd ρ d (.pointer a)) w) : Ops P ops K (Oper.mk (some d) (.move x) ty pos af none :: rest) ρ w := Ops.moveV hx h
theorem Ops.moveS {a : Option Addr} {n c : Nat} (hx : ev ρ x = .slice a n c) (h : Ops P ops K rest (upd ρ d (.slice a n c)) w) : Ops P ops K (Oper.mk (some d) (.move x) ty pos af none :: rest) ρ w := Ops.moveV hx h
theorem Ops.moveA {cs : Array Value} (hx : ev ρ x = .agg cs) (h : Ops P ops K rest (upd ρ d (.agg cs)) w) : Ops P ops K (Oper.mk (some d) (.move x) ty pos af none :: rest) ρ w := Ops.moveV hx h
theorem Ops.moveU {cs : Array Value} (hx : ev ρ x = .tuple cs) (h : Ops P ops K rest (upd ρ d (.tuple cs)) w) : Ops P ops K (Oper.mk (some d) (.move x) ty pos af none :: rest) ρ w := Ops.moveV hx h
theorem Ops.moveM {r : Option Nat} (hx : ev ρ x = .map r) (h : Ops P ops K rest (upd ρ d (.map r)) w) : Ops P ops K (Oper.mk (some d) (.move x) ty pos af none :: rest) ρ w := Ops.moveV hx h
theorem Ops.moveF {f : Go.Fn} {a b : Array Value} (hx : ev ρ x = .func f a b) (h : Ops P ops K rest (upd ρ d (.func f a b)) w) : Ops P ops K (Oper.mk (some d) (.move x) ty pos af none :: rest) ρ w := Ops.moveV hx h
theorem Ops.assignI {k : IntKind} {a : Int} (hx : ev ρ x = .int k a) (h : Ops P ops K rest (upd ρ d (.int k a)) w) : Ops P ops K (Oper.mk (some d) (.assign x) ty pos af none :: rest) ρ w := Ops.assignV hx h
theorem Ops.assignB {b : Bool} (hx : ev ρ x = .bool b) (h : Ops P ops K rest (upd ρ d (.bool b)) w) : Ops P ops K (Oper.mk (some d) (.assign x) ty pos af none :: rest) ρ w := Ops.assignV hx h
theorem Ops.assignT {b : ByteArray} (hx : ev ρ x = .string b) (h : Ops P ops K rest (upd ρ d (.string b)) w) : Ops P ops K (Oper.mk (some d) (.assign x) ty pos af none :: rest) ρ w := Ops.assignV hx h
theorem Ops.assignP {a : Option Addr} (hx : ev ρ x = .pointer a) (h : Ops P ops K rest (upd ρ d (.pointer a)) w) : Ops P ops K (Oper.mk (some d) (.assign x) ty pos af none :: rest) ρ w := Ops.assignV hx h
theorem Ops.assignS {a : Option Addr} {n c : Nat} (hx : ev ρ x = .slice a n c) (h : Ops P ops K rest (upd ρ d (.slice a n c)) w) : Ops P ops K (Oper.mk (some d) (.assign x) ty pos af none :: rest) ρ w := Ops.assignV hx h
theorem Ops.assignA {cs : Array Value} (hx : ev ρ x = .agg cs) (h : Ops P ops K rest (upd ρ d (.agg cs)) w) : Ops P ops K (Oper.mk (some d) (.assign x) ty pos af none :: rest) ρ w := Ops.assignV hx h
theorem Ops.assignM {r : Option Nat} (hx : ev ρ x = .map r) (h : Ops P ops K rest (upd ρ d (.map r)) w) : Ops P ops K (Oper.mk (some d) (.assign x) ty pos af none :: rest) ρ w := Ops.assignV hx h
theorem Ops.assignF {f : Go.Fn} {a b : Array Value} (hx : ev ρ x = .func f a b) (h : Ops P ops K rest (upd ρ d (.func f a b)) w) : Ops P ops K (Oper.mk (some d) (.assign x) ty pos af none :: rest) ρ w := Ops.assignV hx h

theorem Ops.pickT {b : Bool} {v : Value} (hc : ev ρ x = .bool b) (hb : b = true) (hy : ev ρ y = v) (h : Ops P ops K rest (upd ρ d v) w) : Ops P ops K (Oper.mk (some d) (.pick x y z) ty pos af none :: rest) ρ w :=
  Ops.val (v := v) (by subst hb; simp [execOp, hc, hy, asBool]) h
theorem Ops.pickF {b : Bool} {v : Value} (hc : ev ρ x = .bool b) (hb : b = false) (hz : ev ρ z = v) (h : Ops P ops K rest (upd ρ d v) w) : Ops P ops K (Oper.mk (some d) (.pick x y z) ty pos af none :: rest) ρ w :=
  Ops.val (v := v) (by subst hb; simp [execOp, hc, hz, asBool]) h

theorem run_bin_int {op : BinOp} {k : IntKind} {a b : Int} (hx : ev ρ x = .int k a) (hy : ev ρ y = .int k b) (h1 : op ≠ .shl) (h2 : op ≠ .shr) :
    (execOp (ev ρ) (Oper.mk (some d) (.binOp op t x y u) ty pos af none)).run P w = ((binOp op t (.int k a) (.int k b)).run P w).andThen fun v w' => .ok (.value v) w' := by
  simp only [execOp, hx, hy]
  have he : (eqGuard op t x y (.int k a) (.int k b)).run P w = .ok () w := by
    unfold eqGuard; cases op <;> rfl
  simp [he]

theorem Ops.lss {k : IntKind} {a b : Int} (hx : ev ρ x = .int k a) (hy : ev ρ y = .int k b) (h : Ops P ops K rest (upd ρ d (.bool (decide (a < b)))) w) :
    Ops P ops K (Oper.mk (some d) (.binOp .lss t x y u) ty pos af none :: rest) ρ w :=
  Ops.val (by rw [run_bin_int hx hy (by decide) (by decide)]; simp [binOp, Op.intCmp]) h
theorem Ops.leq {k : IntKind} {a b : Int} (hx : ev ρ x = .int k a) (hy : ev ρ y = .int k b) (h : Ops P ops K rest (upd ρ d (.bool (decide (a ≤ b)))) w) :
    Ops P ops K (Oper.mk (some d) (.binOp .leq t x y u) ty pos af none :: rest) ρ w :=
  Ops.val (by rw [run_bin_int hx hy (by decide) (by decide)]; simp [binOp, Op.intCmp]) h
theorem Ops.gtr {k : IntKind} {a b : Int} (hx : ev ρ x = .int k a) (hy : ev ρ y = .int k b) (h : Ops P ops K rest (upd ρ d (.bool (decide (b < a)))) w) :
    Ops P ops K (Oper.mk (some d) (.binOp .gtr t x y u) ty pos af none :: rest) ρ w :=
  Ops.val (by rw [run_bin_int hx hy (by decide) (by decide)]; simp [binOp, Op.intCmp]) h
theorem Ops.geq {k : IntKind} {a b : Int} (hx : ev ρ x = .int k a) (hy : ev ρ y = .int k b) (h : Ops P ops K rest (upd ρ d (.bool (decide (b ≤ a)))) w) :
    Ops P ops K (Oper.mk (some d) (.binOp .geq t x y u) ty pos af none :: rest) ρ w :=
  Ops.val (by rw [run_bin_int hx hy (by decide) (by decide)]; simp [binOp, Op.intCmp]) h
theorem Ops.eqlI {k : IntKind} {a b : Int} (hx : ev ρ x = .int k a) (hy : ev ρ y = .int k b) (h : Ops P ops K rest (upd ρ d (.bool (decide (a = b)))) w) :
    Ops P ops K (Oper.mk (some d) (.binOp .eql t x y u) ty pos af none :: rest) ρ w :=
  Ops.val (by
    rw [run_bin_int hx hy (by decide) (by decide)]
    have e : (decide (a = b)) = (a == b) := by by_cases h : a = b <;> simp [h]
    rw [e]; simp [binOp, Op.intCmp]) h
theorem Ops.neqI {k : IntKind} {a b : Int} (hx : ev ρ x = .int k a) (hy : ev ρ y = .int k b) (h : Ops P ops K rest (upd ρ d (.bool (decide (a ≠ b)))) w) :
    Ops P ops K (Oper.mk (some d) (.binOp .neq t x y u) ty pos af none :: rest) ρ w :=
  Ops.val (by
    rw [run_bin_int hx hy (by decide) (by decide)]
    have e : (decide (a ≠ b)) = (a != b) := by by_cases h : a = b <;> simp [h]
    rw [e]; simp [binOp, Op.intCmp]) h
theorem Ops.add {a b : Int} (hx : ev ρ x = .int .i64 a) (hy : ev ρ y = .int .i64 b) (hr : I64 (a + b)) (h : Ops P ops K rest (upd ρ d (.int .i64 (a + b))) w) :
    Ops P ops K (Oper.mk (some d) (.binOp .add t x y u) ty pos af none :: rest) ρ w :=
  Ops.val (by rw [run_bin_int hx hy (by decide) (by decide)]; simp [binOp, Op.intArith, IntWalk.i64_in _ hr]) h
theorem Ops.sub {a b : Int} (hx : ev ρ x = .int .i64 a) (hy : ev ρ y = .int .i64 b) (hr : I64 (a - b)) (h : Ops P ops K rest (upd ρ d (.int .i64 (a - b))) w) :
    Ops P ops K (Oper.mk (some d) (.binOp .sub t x y u) ty pos af none :: rest) ρ w :=
  Ops.val (by rw [run_bin_int hx hy (by decide) (by decide)]; simp [binOp, Op.intArith, IntWalk.i64_in _ hr]) h
theorem Ops.mul {a b : Int} (hx : ev ρ x = .int .i64 a) (hy : ev ρ y = .int .i64 b) (hr : I64 (a * b)) (h : Ops P ops K rest (upd ρ d (.int .i64 (a * b))) w) :
    Ops P ops K (Oper.mk (some d) (.binOp .mul t x y u) ty pos af none :: rest) ρ w :=
  Ops.val (by rw [run_bin_int hx hy (by decide) (by decide)]; simp [binOp, Op.intArith, IntWalk.i64_in _ hr]) h
/-- Sums that may go round. -/
theorem Ops.addW {k : IntKind} {a b : Int} (hx : ev ρ x = .int k a) (hy : ev ρ y = .int k b) (h : Ops P ops K rest (upd ρ d (.int k (k.wrap (a + b)))) w) :
    Ops P ops K (Oper.mk (some d) (.binOp .add t x y u) ty pos af none :: rest) ρ w :=
  Ops.val (by rw [run_bin_int hx hy (by decide) (by decide)]; simp [binOp, Op.intArith]) h
theorem Ops.subW {k : IntKind} {a b : Int} (hx : ev ρ x = .int k a) (hy : ev ρ y = .int k b) (h : Ops P ops K rest (upd ρ d (.int k (k.wrap (a - b)))) w) :
    Ops P ops K (Oper.mk (some d) (.binOp .sub t x y u) ty pos af none :: rest) ρ w :=
  Ops.val (by rw [run_bin_int hx hy (by decide) (by decide)]; simp [binOp, Op.intArith]) h
theorem Ops.mulW {k : IntKind} {a b : Int} (hx : ev ρ x = .int k a) (hy : ev ρ y = .int k b) (h : Ops P ops K rest (upd ρ d (.int k (k.wrap (a * b)))) w) :
    Ops P ops K (Oper.mk (some d) (.binOp .mul t x y u) ty pos af none :: rest) ρ w :=
  Ops.val (by rw [run_bin_int hx hy (by decide) (by decide)]; simp [binOp, Op.intArith]) h

theorem Ops.not {b : Bool} (hx : ev ρ x = .bool b) (h : Ops P ops K rest (upd ρ d (.bool (!b))) w) : Ops P ops K (Oper.mk (some d) (.unOp .not t x) ty pos af none :: rest) ρ w :=
  Ops.val (by simp [execOp, hx, unary_not]) h

theorem Ops.extract {vs : Array Value} {ix : Nat} {v : Value} (hx : ev ρ x = .tuple vs) (hv : vs[ix]? = some v) (h : Ops P ops K rest (upd ρ d v) w) :
    Ops P ops K (Oper.mk (some d) (.extract x ix) ty pos af none :: rest) ρ w :=
  Ops.val (by simp [execOp, hx, Instr.extract, hv]) h

theorem Ops.nilCheck {a : Addr} (hx : ev ρ x = .pointer (some a)) (h : Ops P ops K rest (upd ρ d (.pointer (some a))) w) : Ops P ops K (Oper.mk (some d) (.nilCheck x) ty pos af none :: rest) ρ w :=
  Ops.val (by simp [execOp, hx]) h

theorem Ops.lenS {a : Option Addr} {n c : Nat} {e : TypeId} (ht : P.underlying t = some (.slice e)) (hx : ev ρ x = .slice a n c) (h : Ops P ops K rest (upd ρ d (.int .i64 n)) w) :
    Ops P ops K (Oper.mk (some d) (.call { callee := .builtin .len, args := #[x], argTypes := #[t] }) ty pos af none :: rest) ρ w :=
  Ops.val (by simp [execOp, resolve, hx, invoke, builtin, Builtin.len_, run_underlying ht, goInt]) h

theorem Ops.lenT {s : ByteArray} (ht : P.underlying t = some .string) (hx : ev ρ x = .string s) (h : Ops P ops K rest (upd ρ d (.int .i64 s.size)) w) :
    Ops P ops K (Oper.mk (some d) (.call { callee := .builtin .len, args := #[x], argTypes := #[t] }) ty pos af none :: rest) ρ w :=
  Ops.val (by simp [execOp, resolve, hx, invoke, builtin, Builtin.len_, run_underlying ht, goInt]) h

theorem eqGuard_pointer {op : BinOp} {a b : Option Addr} : (eqGuard op t x y (.pointer a) (.pointer b)).run P w = .ok () w := by
  unfold eqGuard; cases op <;> rfl
theorem eqGuard_slice {op : BinOp} {a b : Option Addr} {n c n' c' : Nat} : (eqGuard op t x y (.slice a n c) (.slice b n' c')).run P w = .ok () w := by
  unfold eqGuard; cases op <;> rfl
theorem eqGuard_string {op : BinOp} {a b : ByteArray} : (eqGuard op t x y (.string a) (.string b)).run P w = .ok () w := by
  unfold eqGuard; cases op <;> rfl
theorem eqGuard_bool {op : BinOp} {a b : Bool} : (eqGuard op t x y (.bool a) (.bool b)).run P w = .ok () w := by
  unfold eqGuard; cases op <;> rfl

theorem Ops.eqNilP {a : Option Addr} {e : TypeId} (ht : P.underlying t = some (.pointer e)) (hx : ev ρ x = .pointer a) (hy : ev ρ y = .pointer none) (h : Ops P ops K rest (upd ρ d (.bool a.isNone)) w) :
    Ops P ops K (Oper.mk (some d) (.binOp .eql t x y u) ty pos af none :: rest) ρ w :=
  Ops.val (by
    have hp : P.pointee t = e := by unfold Program.pointee; rw [ht]
    simp only [execOp, hx, hy]; simp [eqGuard_pointer, run_eql_pointer_nil w t a (by rw [hp]; exact ht)]) h
theorem Ops.neNilP {a : Option Addr} {e : TypeId} (ht : P.underlying t = some (.pointer e)) (hx : ev ρ x = .pointer a) (hy : ev ρ y = .pointer none) (h : Ops P ops K rest (upd ρ d (.bool (!a.isNone))) w) :
    Ops P ops K (Oper.mk (some d) (.binOp .neq t x y u) ty pos af none :: rest) ρ w :=
  Ops.val (by
    have hp : P.pointee t = e := by unfold Program.pointee; rw [ht]
    simp only [execOp, hx, hy]; simp [eqGuard_pointer, run_neq_pointer_nil w t a (by rw [hp]; exact ht)]) h
theorem Ops.eqNilS {a : Option Addr} {n c : Nat} {e : TypeId} (ht : P.underlying t = some (.slice e)) (hx : ev ρ x = .slice a n c) (hy : ev ρ y = .slice none 0 0) (h : Ops P ops K rest (upd ρ d (.bool a.isNone)) w) :
    Ops P ops K (Oper.mk (some d) (.binOp .eql t x y u) ty pos af none :: rest) ρ w :=
  Ops.val (by simp only [execOp, hx, hy]; simp [eqGuard_slice, Lib.run_eql_slice_nil w t e a n c 0 0 ht]) h
theorem Ops.neNilS {a : Option Addr} {n c : Nat} {e : TypeId} (ht : P.underlying t = some (.slice e)) (hx : ev ρ x = .slice a n c) (hy : ev ρ y = .slice none 0 0) (h : Ops P ops K rest (upd ρ d (.bool (!a.isNone))) w) :
    Ops P ops K (Oper.mk (some d) (.binOp .neq t x y u) ty pos af none :: rest) ρ w :=
  Ops.val (by simp only [execOp, hx, hy]; simp [eqGuard_slice, run_neq_slice_nil_any w t e a n c 0 0 ht]) h

theorem bytes_eq (a b : ByteArray) : (a.toList == b.toList) = decide (a = b) := by
  rw [ByteArray.toList_eq, ByteArray.toList_eq]
  by_cases h : a = b
  · simp [h]
  · have : ¬ a.data.toList = b.data.toList := fun e => h (by
      obtain ⟨⟨x⟩⟩ := a; obtain ⟨⟨y⟩⟩ := b; simpa using e)
    rw [decide_eq_false h]; exact beq_eq_false_iff_ne.2 this

theorem Ops.eqlT {a b : ByteArray} (hx : ev ρ x = .string a) (hy : ev ρ y = .string b) (h : Ops P ops K rest (upd ρ d (.bool (decide (a = b)))) w) :
    Ops P ops K (Oper.mk (some d) (.binOp .eql t x y u) ty pos af none :: rest) ρ w :=
  Ops.val (by
    rw [← bytes_eq]; simp only [execOp, hx, hy]; simp [eqGuard_string, binOp_string_eql]) h
theorem Ops.neqT {a b : ByteArray} (hx : ev ρ x = .string a) (hy : ev ρ y = .string b) (h : Ops P ops K rest (upd ρ d (.bool (!decide (a = b)))) w) :
    Ops P ops K (Oper.mk (some d) (.binOp .neq t x y u) ty pos af none :: rest) ρ w :=
  Ops.val (by
    rw [← bytes_eq]; simp only [execOp, hx, hy]; simp [eqGuard_string, binOp_string_neq]) h
theorem Ops.eqlB {a b : Bool} (ht : P.underlying t = some .bool) (hx : ev ρ x = .bool a) (hy : ev ρ y = .bool b) (h : Ops P ops K rest (upd ρ d (.bool (a == b))) w) :
    Ops P ops K (Oper.mk (some d) (.binOp .eql t x y u) ty pos af none :: rest) ρ w :=
  Ops.val (by simp only [execOp, hx, hy]; simp [eqGuard_bool, run_eql_bool w t a b ht]) h
theorem Ops.neqB {a b : Bool} (ht : P.underlying t = some .bool) (hx : ev ρ x = .bool a) (hy : ev ρ y = .bool b) (h : Ops P ops K rest (upd ρ d (.bool (!(a == b)))) w) :
    Ops P ops K (Oper.mk (some d) (.binOp .neq t x y u) ty pos af none :: rest) ρ w :=
  Ops.val (by simp only [execOp, hx, hy]; simp [eqGuard_bool, run_neq_bool w t a b ht]) h

/-! memory that is read -/

theorem Ops.load1 {b off : Nat} {v : Value} (ha : ∀ w, (isAgg t).run P w = .ok false w) (hS : SL I O E w) (hx : ev ρ x = .pointer (some ⟨b, off, none⟩)) (hv : At I O b off v)
    (h : Ops P ops K rest (upd ρ d v) w) : Ops P ops K (Oper.mk (some d) (.load t x) ty pos af none :: rest) ρ w :=
  Ops.val (by simp [execOp, hx, Instr.loadAt, Instr.sureAddr, loadVar, ha, hS.at_ hv]) h

theorem Ops.loadA {b off : Nat} {cs : List Value} (ha : ∀ w, (isAgg t).run P w = .ok true w) (hs : ∀ w, (sizeOf t).run P w = .ok cs.length w) (hS : SL I O E w) (hx : ev ρ x = .pointer (some ⟨b, off, none⟩))
    (hv : ∀ j v, cs[j]? = some v → At I O b (off + j) v) (h : Ops P ops K rest (upd ρ d (.agg cs.toArray)) w) : Ops P ops K (Oper.mk (some d) (.load t x) ty pos af none :: rest) ρ w :=
  Ops.val (by
    have hl := run_loadCells_list (P := P) w ⟨b, off, none⟩ cs (fun j v hj => by rw [addr_add]; exact hS.at_ (hv j v hj))
    simp [execOp, hx, Instr.loadAt, Instr.sureAddr, loadVar, ha, hs, hl]) h

theorem Ops.idx {b off n c j k : Nat} {e : TypeId} {i : Int} (ht : P.underlying t = some (.slice e)) (hs : ∀ w, (sizeOf e).run P w = .ok k w) (hx : ev ρ x = .slice (some ⟨b, off, none⟩) n c)
    (hy : ev ρ y = .int .i64 i) (hi : i = (j : Int)) (hj : j < n) (h : Ops P ops K rest (upd ρ d (.pointer (some ⟨b, off + j * k, none⟩))) w) :
    Ops P ops K (Oper.mk (some d) (.indexAddr t x y) ty pos af none :: rest) ρ w :=
  Ops.val (by
    subst hi
    simp [execOp, hx, hy, Instr.indexAt, asIntOf, run_underlying ht, hs, hj, addr_add]) h

/-! calls -/

theorem Ops.callF {f : FuncId} {args : List Operand} {tys : Array TypeId} {R : Value → World → Prop} (hc : Fn P f (args.map (ev ρ)).toArray w R) (h : ∀ v w', R v w' → Ops P ops K rest (upd ρ d v) w') :
    Ops P ops K (Oper.mk (some d) (.call { callee := .value (.func f), args := args.toArray, argTypes := tys }) ty pos af none :: rest) ρ w := by
  refine Ops.step rfl ?_
  obtain ⟨⟨fn, c, hf, hb, hn⟩, hcalls⟩ := hc
  unfold OpW
  have : (execOp (ev ρ) (Oper.mk (some d) (.call { callee := .value (.func f), args := args.toArray, argTypes := tys }) ty pos af none)).run P w = .ok (.enter f (args.map (ev ρ)).toArray) w := by
    simp [execOp, resolve, ev, Deferred.ofValue, invoke, callFunc, hf, hb, hn]
  rw [this]
  exact hcalls.mono fun e w' ⟨v, h1, h2⟩ => ⟨v, h1, h v w' h2⟩

theorem Ops.callV {f : FuncId} {args : List Operand} {tys : Array TypeId} {a b : List Value} {R : Value → World → Prop} (hx : ev ρ x = .func (.func f) a.toArray b.toArray) (hc : Fn P f (a ++ args.map (ev ρ) ++ b).toArray w R) (h : ∀ v w', R v w' → Ops P ops K rest (upd ρ d v) w') :
    Ops P ops K (Oper.mk (some d) (.call { callee := .value x, args := args.toArray, argTypes := tys }) ty pos af none :: rest) ρ w := by
  refine Ops.step rfl ?_
  obtain ⟨⟨fn, c, hf, hb, hn⟩, hcalls⟩ := hc
  unfold OpW
  have : (execOp (ev ρ) (Oper.mk (some d) (.call { callee := .value x, args := args.toArray, argTypes := tys }) ty pos af none)).run P w = .ok (.enter f (a ++ args.map (ev ρ) ++ b).toArray) w := by
    simp [execOp, resolve, hx, Deferred.ofValue, invoke, callFunc, hf, hb, hn]
  rw [this]
  exact hcalls.mono fun e w' ⟨v, h1, h2⟩ => ⟨v, h1, h v w' h2⟩

end
end Go.Proofs.YtlfhoiakmbcnlaaDoor
