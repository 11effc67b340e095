/- Statements whose order is open: whatever order is drawn. No conditions. -/
import Derived.Test.YtlfhoiakmbcnlaaDoorRules3
import Derived.RegionTactic
namespace Go.Proofs.YtlfhoiakmbcnlaaDoor

section
variable {P : Program} {ρ : Env} {w : World}
variable {d ty : Nat} {pos : String} {af : Array Edge} {x y z : Operand} {t u e : TypeId}
variable {I : Ghost} {O : Own} {E : World}

theorem Run.moveV {v : Value} (hx : ev ρ x = v) : (execOp (ev ρ) (Oper.mk (some d) (.move x) ty pos af none)).run P w = .ok (.value (v)) w := by subst hx; rfl

theorem Run.assignV {v : Value} (hx : ev ρ x = v) : (execOp (ev ρ) (Oper.mk (some d) (.assign x) ty pos af none)).run P w = .ok (.value (v)) w := by subst hx; rfl

theorem Run.moveI {k : IntKind} {a : Int} (hx : ev ρ x = .int k a) : (execOp (ev ρ) (Oper.mk (some d) (.move x) ty pos af none)).run P w = .ok (.value ((.int k a))) w := Run.moveV hx

theorem Run.moveB {b : Bool} (hx : ev ρ x = .bool b) : (execOp (ev ρ) (Oper.mk (some d) (.move x) ty pos af none)).run P w = .ok (.value ((.bool b))) w := Run.moveV hx

theorem Run.moveT {b : ByteArray} (hx : ev ρ x = .string b) : (execOp (ev ρ) (Oper.mk (some d) (.move x) ty pos af none)).run P w = .ok (.value ((.string b))) w := Run.moveV hx

theorem Run.moveP {a : Option Addr} (hx : ev ρ x = .pointer a) : (execOp (ev ρ) (Oper.mk (some d) (.move x) ty pos af none)).run P w = .ok (.value ((.pointer a))) w := Run.moveV hx

theorem Run.moveS {a : Option Addr} {n c : Nat} (hx : ev ρ x = .slice a n c) : (execOp (ev ρ) (Oper.mk (some d) (.move x) ty pos af none)).run P w = .ok (.value ((.slice a n c))) w := Run.moveV hx

theorem Run.moveA {cs : Array Value} (hx : ev ρ x = .agg cs) : (execOp (ev ρ) (Oper.mk (some d) (.move x) ty pos af none)).run P w = .ok (.value ((.agg cs))) w := Run.moveV hx

theorem Run.moveU {cs : Array Value} (hx : ev ρ x = .tuple cs) : (execOp (ev ρ) (Oper.mk (some d) (.move x) ty pos af none)).run P w = .ok (.value ((.tuple cs))) w := Run.moveV hx

theorem Run.moveM {r : Option Nat} (hx : ev ρ x = .map r) : (execOp (ev ρ) (Oper.mk (some d) (.move x) ty pos af none)).run P w = .ok (.value ((.map r))) w := Run.moveV hx

theorem Run.moveF {f : Go.Fn} {a b : Array Value} (hx : ev ρ x = .func f a b) : (execOp (ev ρ) (Oper.mk (some d) (.move x) ty pos af none)).run P w = .ok (.value ((.func f a b))) w := Run.moveV hx

theorem Run.assignI {k : IntKind} {a : Int} (hx : ev ρ x = .int k a) : (execOp (ev ρ) (Oper.mk (some d) (.assign x) ty pos af none)).run P w = .ok (.value ((.int k a))) w := Run.assignV hx

theorem Run.assignB {b : Bool} (hx : ev ρ x = .bool b) : (execOp (ev ρ) (Oper.mk (some d) (.assign x) ty pos af none)).run P w = .ok (.value ((.bool b))) w := Run.assignV hx

theorem Run.assignT {b : ByteArray} (hx : ev ρ x = .string b) : (execOp (ev ρ) (Oper.mk (some d) (.assign x) ty pos af none)).run P w = .ok (.value ((.string b))) w := Run.assignV hx

theorem Run.assignP {a : Option Addr} (hx : ev ρ x = .pointer a) : (execOp (ev ρ) (Oper.mk (some d) (.assign x) ty pos af none)).run P w = .ok (.value ((.pointer a))) w := Run.assignV hx

theorem Run.assignS {a : Option Addr} {n c : Nat} (hx : ev ρ x = .slice a n c) : (execOp (ev ρ) (Oper.mk (some d) (.assign x) ty pos af none)).run P w = .ok (.value ((.slice a n c))) w := Run.assignV hx

theorem Run.assignA {cs : Array Value} (hx : ev ρ x = .agg cs) : (execOp (ev ρ) (Oper.mk (some d) (.assign x) ty pos af none)).run P w = .ok (.value ((.agg cs))) w := Run.assignV hx

theorem Run.assignM {r : Option Nat} (hx : ev ρ x = .map r) : (execOp (ev ρ) (Oper.mk (some d) (.assign x) ty pos af none)).run P w = .ok (.value ((.map r))) w := Run.assignV hx

theorem Run.assignF {f : Go.Fn} {a b : Array Value} (hx : ev ρ x = .func f a b) : (execOp (ev ρ) (Oper.mk (some d) (.assign x) ty pos af none)).run P w = .ok (.value ((.func f a b))) w := Run.assignV hx

theorem Run.pickT {b : Bool} {v : Value} (hc : ev ρ x = .bool b) (hb : b = true) (hy : ev ρ y = v) :
    (execOp (ev ρ) (Oper.mk (some d) (.pick x y z) ty pos af none)).run P w = .ok (.value (v)) w :=
  (by subst hb; simp [execOp, hc, hy, asBool])

theorem Run.pickF {b : Bool} {v : Value} (hc : ev ρ x = .bool b) (hb : b = false) (hz : ev ρ z = v) :
    (execOp (ev ρ) (Oper.mk (some d) (.pick x y z) ty pos af none)).run P w = .ok (.value (v)) w :=
  (by subst hb; simp [execOp, hc, hz, asBool])

theorem Run.lss {k : IntKind} {a b : Int} (hx : ev ρ x = .int k a) (hy : ev ρ y = .int k b) :
    (execOp (ev ρ) (Oper.mk (some d) (.binOp .lss t x y u) ty pos af none)).run P w = .ok (.value ((.bool (decide (a < b))))) w :=
  (by rw [run_bin_int hx hy (by decide) (by decide)]; simp [binOp, Op.intCmp])

theorem Run.leq {k : IntKind} {a b : Int} (hx : ev ρ x = .int k a) (hy : ev ρ y = .int k b) :
    (execOp (ev ρ) (Oper.mk (some d) (.binOp .leq t x y u) ty pos af none)).run P w = .ok (.value ((.bool (decide (a ≤ b))))) w :=
  (by rw [run_bin_int hx hy (by decide) (by decide)]; simp [binOp, Op.intCmp])

theorem Run.gtr {k : IntKind} {a b : Int} (hx : ev ρ x = .int k a) (hy : ev ρ y = .int k b) :
    (execOp (ev ρ) (Oper.mk (some d) (.binOp .gtr t x y u) ty pos af none)).run P w = .ok (.value ((.bool (decide (b < a))))) w :=
  (by rw [run_bin_int hx hy (by decide) (by decide)]; simp [binOp, Op.intCmp])

theorem Run.geq {k : IntKind} {a b : Int} (hx : ev ρ x = .int k a) (hy : ev ρ y = .int k b) :
    (execOp (ev ρ) (Oper.mk (some d) (.binOp .geq t x y u) ty pos af none)).run P w = .ok (.value ((.bool (decide (b ≤ a))))) w :=
  (by rw [run_bin_int hx hy (by decide) (by decide)]; simp [binOp, Op.intCmp])

theorem Run.eqlI {k : IntKind} {a b : Int} (hx : ev ρ x = .int k a) (hy : ev ρ y = .int k b) :
    (execOp (ev ρ) (Oper.mk (some d) (.binOp .eql t x y u) ty pos af none)).run P w = .ok (.value ((.bool (decide (a = b))))) w :=
  (by
    rw [run_bin_int hx hy (by decide) (by decide)]
    have e : (decide (a = b)) = (a == b) := by by_cases h : a = b <;> simp [h]
    rw [e]; simp [binOp, Op.intCmp])

theorem Run.neqI {k : IntKind} {a b : Int} (hx : ev ρ x = .int k a) (hy : ev ρ y = .int k b) :
    (execOp (ev ρ) (Oper.mk (some d) (.binOp .neq t x y u) ty pos af none)).run P w = .ok (.value ((.bool (decide (a ≠ b))))) w :=
  (by
    rw [run_bin_int hx hy (by decide) (by decide)]
    have e : (decide (a ≠ b)) = (a != b) := by by_cases h : a = b <;> simp [h]
    rw [e]; simp [binOp, Op.intCmp])

theorem Run.add {a b : Int} (hx : ev ρ x = .int .i64 a) (hy : ev ρ y = .int .i64 b) (hr : I64 (a + b)) :
    (execOp (ev ρ) (Oper.mk (some d) (.binOp .add t x y u) ty pos af none)).run P w = .ok (.value ((.int .i64 (a + b)))) w :=
  (by rw [run_bin_int hx hy (by decide) (by decide)]; simp [binOp, Op.intArith, IntWalk.i64_in _ hr])

theorem Run.sub {a b : Int} (hx : ev ρ x = .int .i64 a) (hy : ev ρ y = .int .i64 b) (hr : I64 (a - b)) :
    (execOp (ev ρ) (Oper.mk (some d) (.binOp .sub t x y u) ty pos af none)).run P w = .ok (.value ((.int .i64 (a - b)))) w :=
  (by rw [run_bin_int hx hy (by decide) (by decide)]; simp [binOp, Op.intArith, IntWalk.i64_in _ hr])

theorem Run.mul {a b : Int} (hx : ev ρ x = .int .i64 a) (hy : ev ρ y = .int .i64 b) (hr : I64 (a * b)) :
    (execOp (ev ρ) (Oper.mk (some d) (.binOp .mul t x y u) ty pos af none)).run P w = .ok (.value ((.int .i64 (a * b)))) w :=
  (by rw [run_bin_int hx hy (by decide) (by decide)]; simp [binOp, Op.intArith, IntWalk.i64_in _ hr])

theorem Run.addW {k : IntKind} {a b : Int} (hx : ev ρ x = .int k a) (hy : ev ρ y = .int k b) :
    (execOp (ev ρ) (Oper.mk (some d) (.binOp .add t x y u) ty pos af none)).run P w = .ok (.value ((.int k (k.wrap (a + b))))) w :=
  (by rw [run_bin_int hx hy (by decide) (by decide)]; simp [binOp, Op.intArith])

theorem Run.subW {k : IntKind} {a b : Int} (hx : ev ρ x = .int k a) (hy : ev ρ y = .int k b) :
    (execOp (ev ρ) (Oper.mk (some d) (.binOp .sub t x y u) ty pos af none)).run P w = .ok (.value ((.int k (k.wrap (a - b))))) w :=
  (by rw [run_bin_int hx hy (by decide) (by decide)]; simp [binOp, Op.intArith])

theorem Run.mulW {k : IntKind} {a b : Int} (hx : ev ρ x = .int k a) (hy : ev ρ y = .int k b) :
    (execOp (ev ρ) (Oper.mk (some d) (.binOp .mul t x y u) ty pos af none)).run P w = .ok (.value ((.int k (k.wrap (a * b))))) w :=
  (by rw [run_bin_int hx hy (by decide) (by decide)]; simp [binOp, Op.intArith])

theorem Run.not {b : Bool} (hx : ev ρ x = .bool b) :
    (execOp (ev ρ) (Oper.mk (some d) (.unOp .not t x) ty pos af none)).run P w = .ok (.value ((.bool (!b)))) w :=
  (by simp [execOp, hx, unary_not])

theorem Run.extract {vs : Array Value} {ix : Nat} {v : Value} (hx : ev ρ x = .tuple vs) (hv : vs[ix]? = some v) :
    (execOp (ev ρ) (Oper.mk (some d) (.extract x ix) ty pos af none)).run P w = .ok (.value (v)) w :=
  (by simp [execOp, hx, Instr.extract, hv])

theorem Run.nilCheck {a : Addr} (hx : ev ρ x = .pointer (some a)) :
    (execOp (ev ρ) (Oper.mk (some d) (.nilCheck x) ty pos af none)).run P w = .ok (.value ((.pointer (some a)))) w :=
  (by simp [execOp, hx])

theorem Run.lenS {a : Option Addr} {n c : Nat} {e : TypeId} (ht : P.underlying t = some (.slice e)) (hx : ev ρ x = .slice a n c) :
    (execOp (ev ρ) (Oper.mk (some d) (.call { callee := .builtin .len, args := #[x], argTypes := #[t] }) ty pos af none)).run P w = .ok (.value ((.int .i64 n))) w :=
  (by simp [execOp, resolve, hx, invoke, builtin, Builtin.len_, run_underlying ht, goInt])

theorem Run.lenT {s : ByteArray} (ht : P.underlying t = some .string) (hx : ev ρ x = .string s) :
    (execOp (ev ρ) (Oper.mk (some d) (.call { callee := .builtin .len, args := #[x], argTypes := #[t] }) ty pos af none)).run P w = .ok (.value ((.int .i64 s.size))) w :=
  (by simp [execOp, resolve, hx, invoke, builtin, Builtin.len_, run_underlying ht, goInt])

theorem Run.eqNilP {a : Option Addr} {e : TypeId} (ht : P.underlying t = some (.pointer e)) (hx : ev ρ x = .pointer a) (hy : ev ρ y = .pointer none) :
    (execOp (ev ρ) (Oper.mk (some d) (.binOp .eql t x y u) ty pos af none)).run P w = .ok (.value ((.bool a.isNone))) w :=
  (by
    have hp : P.pointee t = e := by unfold Program.pointee; rw [ht]
    simp only [execOp, hx, hy]; simp [eqGuard_pointer, run_eql_pointer_nil w t a (by rw [hp]; exact ht)])

theorem Run.neNilP {a : Option Addr} {e : TypeId} (ht : P.underlying t = some (.pointer e)) (hx : ev ρ x = .pointer a) (hy : ev ρ y = .pointer none) :
    (execOp (ev ρ) (Oper.mk (some d) (.binOp .neq t x y u) ty pos af none)).run P w = .ok (.value ((.bool (!a.isNone)))) w :=
  (by
    have hp : P.pointee t = e := by unfold Program.pointee; rw [ht]
    simp only [execOp, hx, hy]; simp [eqGuard_pointer, run_neq_pointer_nil w t a (by rw [hp]; exact ht)])

theorem Run.eqNilS {a : Option Addr} {n c : Nat} {e : TypeId} (ht : P.underlying t = some (.slice e)) (hx : ev ρ x = .slice a n c) (hy : ev ρ y = .slice none 0 0) :
    (execOp (ev ρ) (Oper.mk (some d) (.binOp .eql t x y u) ty pos af none)).run P w = .ok (.value ((.bool a.isNone))) w :=
  (by simp only [execOp, hx, hy]; simp [eqGuard_slice, Lib.run_eql_slice_nil w t e a n c 0 0 ht])

theorem Run.neNilS {a : Option Addr} {n c : Nat} {e : TypeId} (ht : P.underlying t = some (.slice e)) (hx : ev ρ x = .slice a n c) (hy : ev ρ y = .slice none 0 0) :
    (execOp (ev ρ) (Oper.mk (some d) (.binOp .neq t x y u) ty pos af none)).run P w = .ok (.value ((.bool (!a.isNone)))) w :=
  (by simp only [execOp, hx, hy]; simp [eqGuard_slice, run_neq_slice_nil_any w t e a n c 0 0 ht])

theorem Run.eqlT {a b : ByteArray} (hx : ev ρ x = .string a) (hy : ev ρ y = .string b) :
    (execOp (ev ρ) (Oper.mk (some d) (.binOp .eql t x y u) ty pos af none)).run P w = .ok (.value ((.bool (decide (a = b))))) w :=
  (by
    rw [← bytes_eq]; simp only [execOp, hx, hy]; simp [eqGuard_string, binOp_string_eql])

theorem Run.neqT {a b : ByteArray} (hx : ev ρ x = .string a) (hy : ev ρ y = .string b) :
    (execOp (ev ρ) (Oper.mk (some d) (.binOp .neq t x y u) ty pos af none)).run P w = .ok (.value ((.bool (!decide (a = b))))) w :=
  (by
    rw [← bytes_eq]; simp only [execOp, hx, hy]; simp [eqGuard_string, binOp_string_neq])

theorem Run.eqlB {a b : Bool} (ht : P.underlying t = some .bool) (hx : ev ρ x = .bool a) (hy : ev ρ y = .bool b) :
    (execOp (ev ρ) (Oper.mk (some d) (.binOp .eql t x y u) ty pos af none)).run P w = .ok (.value ((.bool (a == b)))) w :=
  (by simp only [execOp, hx, hy]; simp [eqGuard_bool, run_eql_bool w t a b ht])

theorem Run.neqB {a b : Bool} (ht : P.underlying t = some .bool) (hx : ev ρ x = .bool a) (hy : ev ρ y = .bool b) :
    (execOp (ev ρ) (Oper.mk (some d) (.binOp .neq t x y u) ty pos af none)).run P w = .ok (.value ((.bool (!(a == b))))) w :=
  (by simp only [execOp, hx, hy]; simp [eqGuard_bool, run_neq_bool w t a b ht])

theorem Run.load1 {b off : Nat} {v : Value} (ha : ∀ w, (isAgg t).run P w = .ok false w) (hS : SL I O E w) (hx : ev ρ x = .pointer (some ⟨b, off, none⟩)) (hv : At I O b off v)
    :
    (execOp (ev ρ) (Oper.mk (some d) (.load t x) ty pos af none)).run P w = .ok (.value (v)) w :=
  (by simp [execOp, hx, Instr.loadAt, Instr.sureAddr, loadVar, ha, hS.at_ hv])

theorem Run.loadA {b off : Nat} {cs : List Value} (ha : ∀ w, (isAgg t).run P w = .ok true w) (hs : ∀ w, (sizeOf t).run P w = .ok cs.length w) (hS : SL I O E w) (hx : ev ρ x = .pointer (some ⟨b, off, none⟩))
    (hv : ∀ j v, cs[j]? = some v → At I O b (off + j) v) :
    (execOp (ev ρ) (Oper.mk (some d) (.load t x) ty pos af none)).run P w = .ok (.value ((.agg cs.toArray))) w :=
  (by
    have hl := run_loadCells_list (P := P) w ⟨b, off, none⟩ cs (fun j v hj => by rw [addr_add]; exact hS.at_ (hv j v hj))
    simp [execOp, hx, Instr.loadAt, Instr.sureAddr, loadVar, ha, hs, hl])

theorem Run.idx {b off n c j k : Nat} {e : TypeId} {i : Int} (ht : P.underlying t = some (.slice e)) (hs : ∀ w, (sizeOf e).run P w = .ok k w) (hx : ev ρ x = .slice (some ⟨b, off, none⟩) n c)
    (hy : ev ρ y = .int .i64 i) (hi : i = (j : Int)) (hj : j < n) :
    (execOp (ev ρ) (Oper.mk (some d) (.indexAddr t x y) ty pos af none)).run P w = .ok (.value ((.pointer (some ⟨b, off + j * k, none⟩)))) w :=
  (by
    subst hi
    simp [execOp, hx, hy, Instr.indexAt, asIntOf, run_underlying ht, hs, hj, addr_add])
theorem Run.field {fs : Array Field} {f : Field} {i : Nat} {b off r : Nat} {sz : Nat} (ht : P.underlying t = some (.struct fs)) (hf : fs[i]? = some f) (hs : ∀ w, (sizeOf f.type).run P w = .ok sz w) (hz : sz ≠ 0)
    (hx : ev ρ x = .pointer (some ⟨b, off, none⟩)) (hr : off + f.offset = r) :
    (execOp (ev ρ) (Oper.mk (some d) (.fieldAddr t x i) ty pos af none)).run P w = .ok (.value ((.pointer (some ⟨b, r, none⟩)))) w :=
  (by subst hr; simp [execOp, hx, Instr.fieldAt, run_underlying ht, hf, Instr.sureAddr, fieldPlace, hs, hz, addr_add])

theorem Run.build {l : List (Nat × Operand)} {vals : List (Nat × Value)} {v : Value} (hrun : (Instr.build t vals.toArray).run P w = .ok v w) (hv : l.map (fun p => (p.1, ev ρ p.2)) = vals) :
    (execOp (ev ρ) (Oper.mk (some d) (.build t l.toArray) ty pos af none)).run P w = .ok (.value (v)) w :=
  (by subst hv; simp only [execOp, List.map_toArray]; rw [Sem.run_bind, hrun]; rfl)

theorem Run.pickTB {b c : Bool} (hc : ev ρ x = .bool b) (hb : b = true) (hy : ev ρ y = .bool c) : (execOp (ev ρ) (Oper.mk (some d) (.pick x y z) ty pos af none)).run P w = .ok (.value (.bool c)) w := Run.pickT hc hb hy
theorem Run.pickFB {b c : Bool} (hc : ev ρ x = .bool b) (hb : b = false) (hz : ev ρ z = .bool c) : (execOp (ev ρ) (Oper.mk (some d) (.pick x y z) ty pos af none)).run P w = .ok (.value (.bool c)) w := Run.pickF hc hb hz
theorem Run.pickTI {b : Bool} {k : IntKind} {c : Int} (hc : ev ρ x = .bool b) (hb : b = true) (hy : ev ρ y = .int k c) : (execOp (ev ρ) (Oper.mk (some d) (.pick x y z) ty pos af none)).run P w = .ok (.value (.int k c)) w := Run.pickT hc hb hy
theorem Run.pickFI {b : Bool} {k : IntKind} {c : Int} (hc : ev ρ x = .bool b) (hb : b = false) (hz : ev ρ z = .int k c) : (execOp (ev ρ) (Oper.mk (some d) (.pick x y z) ty pos af none)).run P w = .ok (.value (.int k c)) w := Run.pickF hc hb hz
theorem Run.extract0 {v : Value} {l : List Value} (hx : ev ρ x = .tuple (v :: l).toArray) : (execOp (ev ρ) (Oper.mk (some d) (.extract x 0) ty pos af none)).run P w = .ok (.value v) w := Run.extract hx (by simp)
theorem Run.extract1 {v v' : Value} {l : List Value} (hx : ev ρ x = .tuple (v' :: v :: l).toArray) : (execOp (ev ρ) (Oper.mk (some d) (.extract x 1) ty pos af none)).run P w = .ok (.value v) w := Run.extract hx (by simp)
theorem Run.load1P {b off : Nat} {v : Value} {cs : List Value} {T : TypeId} {f : Nat × Nat} {tl : List Value} (ha : ∀ w, (isAgg t).run P w = .ok false w) (hS : SL I O E w) (hx : ev ρ x = .pointer (some ⟨b, off, none⟩)) (hb : I b = some (.cells cs.toArray T f)) (hv : cs.drop off = v :: tl) :
    (execOp (ev ρ) (Oper.mk (some d) (.load t x) ty pos af none)).run P w = .ok (.value v) w :=
  Run.load1 ha hS hx (.inl ⟨_, _, _, hb, by rw [List.getElem?_toArray]; exact drop_get hv⟩)
theorem Run.load1O {b off : Nat} {v : Value} {cs : List Value} {T : TypeId} {f : Nat × Nat} {tl : List Value} (ha : ∀ w, (isAgg t).run P w = .ok false w) (hS : SL I O E w) (hx : ev ρ x = .pointer (some ⟨b, off, none⟩)) (hb : (b, Obj.cells cs.toArray T f) ∈ O) (hv : cs.drop off = v :: tl) :
    (execOp (ev ρ) (Oper.mk (some d) (.load t x) ty pos af none)).run P w = .ok (.value v) w :=
  Run.load1 ha hS hx (.inr ⟨_, _, _, hb, by rw [List.getElem?_toArray]; exact drop_get hv⟩)
theorem Run.loadAllP {b : Nat} {cs : List Value} {T : TypeId} {f : Nat × Nat} {sz : Nat} (ha : ∀ w, (isAgg t).run P w = .ok true w) (hs : ∀ w, (sizeOf t).run P w = .ok sz w) (hS : SL I O E w) (hx : ev ρ x = .pointer (some ⟨b, 0, none⟩)) (hb : I b = some (.cells cs.toArray T f)) (hl : cs.length = sz) :
    (execOp (ev ρ) (Oper.mk (some d) (.load t x) ty pos af none)).run P w = .ok (.value (.agg cs.toArray)) w :=
  Run.loadA ha (by rw [hl]; exact hs) hS hx (fun j v hj => .inl ⟨_, _, _, hb, by rw [List.getElem?_toArray, Nat.zero_add]; exact hj⟩)
theorem Run.loadAllO {b : Nat} {cs : List Value} {T : TypeId} {f : Nat × Nat} {sz : Nat} (ha : ∀ w, (isAgg t).run P w = .ok true w) (hs : ∀ w, (sizeOf t).run P w = .ok sz w) (hS : SL I O E w) (hx : ev ρ x = .pointer (some ⟨b, 0, none⟩)) (hb : (b, Obj.cells cs.toArray T f) ∈ O) (hl : cs.length = sz) :
    (execOp (ev ρ) (Oper.mk (some d) (.load t x) ty pos af none)).run P w = .ok (.value (.agg cs.toArray)) w :=
  Run.loadA ha (by rw [hl]; exact hs) hS hx (fun j v hj => .inr ⟨_, _, _, hb, by rw [List.getElem?_toArray, Nat.zero_add]; exact hj⟩)
theorem Run.idxE {a : Option Addr} {b off n c j k : Nat} {i : Int} (ht : P.underlying t = some (.slice e)) (hs : ∀ w, (sizeOf e).run P w = .ok k w) (hx : ev ρ x = .slice a n c) (ha : a = some ⟨b, off, none⟩)
    (hy : ev ρ y = .int .i64 i) (hi : i = (j : Int)) (hj : j < n) : (execOp (ev ρ) (Oper.mk (some d) (.indexAddr t x y) ty pos af none)).run P w = .ok (.value (.pointer (some ⟨b, off + j * k, none⟩))) w :=
  Run.idx ht hs (by rw [hx, ha]) hy hi hj
theorem Ops.idxE {ops : Array Oper} {K : Env → World → Prop} {rest : List Oper} {a : Option Addr} {b off n c j k : Nat} {i : Int} (ht : P.underlying t = some (.slice e)) (hs : ∀ w, (sizeOf e).run P w = .ok k w) (hx : ev ρ x = .slice a n c) (ha : a = some ⟨b, off, none⟩)
    (hy : ev ρ y = .int .i64 i) (hi : i = (j : Int)) (hj : j < n) (h : Ops P ops K rest (upd ρ d (.pointer (some ⟨b, off + j * k, none⟩))) w) : Ops P ops K (Oper.mk (some d) (.indexAddr t x y) ty pos af none :: rest) ρ w :=
  Ops.val (Run.idxE ht hs hx ha hy hi hj) h
theorem Run.elem1 {α : Type} {R : Ghost → Own → List Value → α → Prop} {xs : List α} {v : α} {a : Option Addr} {n c j : Nat} (hS : SL I O E w) (ha : ∀ w, (isAgg e).run P w = .ok false w) (hj : xs[j]? = some v) (hR : Sl 1 R I O a n c xs) :
    ∃ b off u, a = some ⟨b, off, none⟩ ∧ j < n ∧ R I O [u] v ∧ At I O b (off + j * 1) u := by
  obtain ⟨hn, _, _, hel⟩ := hR
  obtain ⟨b, off, l, rfl, hl, hr, hat⟩ := hel j v hj
  obtain ⟨u, rfl⟩ : ∃ u, l = [u] := by
    match l, hl with
    | [u], _ => exact ⟨u, rfl⟩
  exact ⟨b, off, u, rfl, by rw [hn]; exact (List.getElem?_eq_some_iff.1 hj).1, hr, hat 0 u rfl⟩
end

/-! ### Any order -/

/-- Whatever order is drawn from here on; behind each operation, but those of `W`, the world meets `S`. -/
def AnyV (P : Program) (ops : Array Oper) (S : World → Prop) (W : Nat → Bool) (Q : Env → World → Prop) : Nat → Array Bool → Env → World → Prop
  | 0, listed, ρ, w => Region.ready .any ops listed = [] ∧ Q ρ w
  | fuel + 1, listed, ρ, w => (Region.ready .any ops listed = [] → Q ρ w) ∧
      ∀ i ∈ Region.ready .any ops listed, ∀ o, ops[i]? = some o → Ops P ops (fun ρ' w' => (W i = true ∨ S w') ∧ AnyV P ops S W Q fuel (listed.setIfInBounds i true) ρ' w') [o] ρ w

theorem AnyV.any {P : Program} {n : Nat} {l : List Oper} {S : World → Prop} {W : Nat → Bool} {Q : Exit → Env → World → Prop} (hd : dstsOk n l = true) : ∀ (fuel : Nat) (listed : Array Bool) (ρ : Env) (w : World) (a : Act), Agree n a ρ →
    AnyV P l.toArray S W (Q .normal) fuel listed ρ w → wpAny P .any l.toArray (lift n Q) fuel listed a w
  | 0, _, ρ, _, _, ha, h => ⟨h.1, ρ, ha, h.2⟩
  | fuel + 1, listed, ρ, w, a, ha, h => by
    refine ⟨fun h0 => ⟨ρ, ha, h.1 h0⟩, fun i hi => ?_⟩
    obtain ⟨_, o, ho, _⟩ := mem_ready.1 hi
    have h2 := h.2 i hi o ho
    have hdo : o.dst.all (fun d => decide (d < n)) = true := List.all_eq_true.1 hd _ (by simpa using Array.mem_of_getElem? ho)
    unfold wpOp
    simp only [ho]
    rw [wanted_eq ha _ _ (dst_lt hd)]
    unfold Ops at h2
    split
    · rename_i hw; rw [if_pos hw] at h2
      exact .inl (h2.wp ha fun v w' ⟨_, h3⟩ => AnyV.any hd fuel _ _ _ _ (ha.put hdo v) h3)
    · rename_i hw; rw [if_neg hw] at h2
      exact AnyV.any hd fuel _ _ _ _ (ha.put hdo undef) h2.2

theorem updO_comm (ρ : Env) {x y : Option Nat} (v u : Value) (h : ∀ d, x = some d → y ≠ some d) : updO (updO ρ x v) y u = updO (updO ρ y u) x v := by
  cases x with
  | none => rfl
  | some d =>
    cases y with
    | none => rfl
    | some e =>
      have hne : d ≠ e := fun he => h d rfl (he ▸ rfl)
      funext t
      simp only [updO]
      by_cases h1 : t = d
      · subst h1; rw [upd_other _ _ hne, upd_same, upd_same]
      · rw [upd_other _ _ h1]
        by_cases h2 : t = e
        · subst h2; rw [upd_same, upd_same]
        · rw [upd_other _ _ h2, upd_other _ _ h2, upd_other _ _ h1]

theorem ev_updO {ρ : Env} {ops : Array Oper} {o : Oper} {d : Option Nat} {v : Value} (h : ∀ e, d = some e → e ∉ o.looksAt ops) : ∀ x ∈ o.op.operands, ev (updO ρ d v) x = ev ρ x := by
  intro x hx
  cases d with
  | none => rfl
  | some e =>
    cases x with
    | tmp t =>
      have : t ≠ e := fun he => h e rfl (by
        subst he
        exact List.mem_append_left _ (List.mem_filterMap.2 ⟨.tmp t, by simpa using hx, rfl⟩))
      exact upd_other _ _ this
    | _ => rfl

theorem wantedE_updO {ρ : Env} {ops : Array Oper} {o : Oper} {d : Option Nat} {v : Value} (h : ∀ e, d = some e → e ∉ o.looksAt ops) : wantedE ops o (updO ρ d v) = wantedE ops o ρ := by
  cases d with
  | none => rfl
  | some e =>
    unfold wantedE
    cases hg : o.guard with
    | none => rfl
    | some gw =>
      obtain ⟨g, want⟩ := gw
      dsimp only
      cases ht : (ops[g]?).bind (fun o : Oper => o.dst) with
      | none => rfl
      | some t =>
        have hne : t ≠ e := fun he => h e rfl (by subst he; simp [Oper.looksAt, hg, ht])
        have : updO ρ (some e) v t = ρ t := upd_other _ _ hne
        simp only [this]

/-- In `ρ`, in every world that meets `S`, the operation gives `v`, and does nothing else. -/
def Gives (P : Program) (ops : Array Oper) (S : World → Prop) (o : Oper) (v : Value) (ρ : Env) : Prop :=
  (wantedE ops o ρ = true ∧ ∀ w, S w → (execOp (ev ρ) o).run P w = .ok (.value v) w) ∨ (wantedE ops o ρ = false ∧ v = undef)

theorem Gives.ops {P : Program} {ops : Array Oper} {S : World → Prop} {o : Oper} {v : Value} {ρ : Env} {K : Env → World → Prop} {w : World} (h : Gives P ops S o v ρ) (hS : S w) (hK : K (updO ρ o.dst v) w) : Ops P ops K [o] ρ w := by
  unfold Ops
  rcases h with ⟨h1, h2⟩ | ⟨h1, rfl⟩
  · rw [if_pos h1]; unfold OpW; rw [h2 w hS]; exact hK
  · rw [if_neg (by simp [h1])]; exact hK

theorem AnyV.first {P : Program} {ops : Array Oper} {S : World → Prop} {W : Nat → Bool} {Q : Env → World → Prop} {i : Nat} {oi : Oper} {v : Value} (hi : ops[i]? = some oi) (hsel : ∀ (j : Nat) (o : Oper) cs b, ops[j]? = some o → o.op ≠ .select cs b)
    (hW : ∀ (j : Nat) oj, ops[j]? = some oj → j ≠ i → W j = true → ∃ e ∈ oj.after, Region.binds .any e = true ∧ e.on = i) :
    ∀ (fuel : Nat) (listed : Array Bool) (ρ : Env) (w : World),
      (∀ j oj, ops[j]? = some oj → j ≠ i → listed.getD j true = false → (∀ e ∈ oj.after, Region.binds .any e = true → e.on ≠ i) → oi.apart ops oj = true) →
      i ∈ Region.ready .any ops listed → Gives P ops S oi v ρ → S w →
      AnyV P ops S W Q fuel (listed.setIfInBounds i true) (updO ρ oi.dst v) w → AnyV P ops S W Q (fuel + 1) listed ρ w := by
  intro fuel
  induction fuel with
  | zero =>
    intro listed ρ w _ hr hy hS H
    refine ⟨fun h => (by rw [h] at hr; cases hr), fun j hj o ho => ?_⟩
    by_cases hji : j = i
    · subst hji
      rw [hi] at ho; cases ho
      exact hy.ops hS ⟨.inr hS, H⟩
    · have := ready_mono hj hji
      rw [H.1] at this
      cases this
  | succ fuel ih =>
    intro listed ρ w hfree hr hy hS H
    refine ⟨fun h => (by rw [h] at hr; cases hr), fun j hj oj hoj => ?_⟩
    by_cases hji : j = i
    · subst hji
      rw [hi] at hoj; cases hoj
      exact hy.ops hS ⟨.inr hS, H⟩
    · obtain ⟨hjun, oj', hoj', hall⟩ := mem_ready.1 hj
      rw [hoj] at hoj'; cases hoj'
      have hnot : ∀ e ∈ oj.after, Region.binds .any e = true → e.on ≠ i := fun e he hb heq => by
        have h1 := hall e he hb
        have h0 := (mem_ready.1 hr).1
        rw [heq] at h1
        rcases Nat.lt_or_ge i listed.size with h' | h'
        · simp [h'] at h0 h1; rw [h0] at h1; cases h1
        · simp [Array.getElem?_eq_none h'] at h1
      have hWj : W j = false := by
        cases hw : W j with
        | false => rfl
        | true =>
          obtain ⟨e, he, hb, hon⟩ := hW j oj hoj hji hw
          exact absurd hon (hnot e he hb)
      have h1 := H.2 j (ready_mono hj hji) oj hoj
      obtain ⟨a1, a2, a3⟩ := Oper.apart_spec (hfree j oj hoj hji hjun hnot)
      have hwt := wantedE_updO (ρ := ρ) (v := v) (ops := ops) (o := oj) (d := oi.dst) a1
      have hex : execOp (ev (updO ρ oi.dst v)) oj = execOp (ev ρ) oj := execOp_congr oj (fun cs b => hsel j oj cs b hoj) (ev_updO a1)
      have hfree' : ∀ k ok, ops[k]? = some ok → k ≠ i → (listed.setIfInBounds j true).getD k true = false →
          (∀ e ∈ ok.after, Region.binds .any e = true → e.on ≠ i) → oi.apart ops ok = true := fun k ok hk hki hun hno => by
        refine hfree k ok hk hki ?_ hno
        by_cases hjk : j = k
        · subst hjk; exact hjun
        · rw [getD_set_ne true hjk] at hun; exact hun
      have keep : ∀ u, Gives P ops S oi v (updO ρ oj.dst u) := fun u => by
        unfold Gives at *
        rw [wantedE_updO a3, execOp_congr oi (fun cs b => hsel i oi cs b hi) (ev_updO a3)]
        exact hy
      have next : ∀ u w', ((W j = true ∨ S w') ∧ AnyV P ops S W Q fuel ((listed.setIfInBounds i true).setIfInBounds j true) (updO (updO ρ oi.dst v) oj.dst u) w') →
          (W j = true ∨ S w') ∧ AnyV P ops S W Q (fuel + 1) (listed.setIfInBounds j true) (updO ρ oj.dst u) w' := by
        rintro u w' ⟨h2, h3⟩
        have hS' : S w' := h2.resolve_left (by simp [hWj])
        refine ⟨.inr hS', ih _ _ _ hfree' (ready_mono hr (Ne.symm hji)) (keep u) hS' ?_⟩
        rw [← updO_comm ρ v u a2, Array.setIfInBounds_comm _ _ hji]
        exact h3
      unfold Ops at h1 ⊢
      rw [hwt] at h1
      split
      · rename_i hw; rw [if_pos hw] at h1
        unfold OpW at h1 ⊢
        rw [hex] at h1
        split
        · rename_i heq; rw [heq] at h1; exact next _ _ h1
        · rename_i heq; rw [heq] at h1; exact next _ _ h1
        · rename_i heq; rw [heq] at h1
          exact h1.mono fun e w'' ⟨u, he, hK⟩ => ⟨u, he, next _ _ hK⟩
        · rename_i h4 h5 h6
          split at h1
          · rename_i heq; exact (h4 _ _ heq).elim
          · rename_i heq; exact (h5 _ heq).elim
          · rename_i heq; exact (h6 _ _ _ heq).elim
          · exact h1
      · rename_i hw; rw [if_neg hw] at h1
        exact next _ _ h1

def waitsB (l : List Oper) (i : Nat) (W : Nat → Bool) : Bool := (List.range l.length).all fun j => j == i || !W j || (match l[j]? with | some oj => oj.after.any (fun e => Region.binds .any e && e.on == i) | none => true)

theorem waitsB_spec {l : List Oper} {i : Nat} {W : Nat → Bool} (h : waitsB l i W = true) (j : Nat) (oj : Oper) (hj : l.toArray[j]? = some oj) (hne : j ≠ i) (hw : W j = true) : ∃ e ∈ oj.after, Region.binds .any e = true ∧ e.on = i := by
  simp only [waitsB, List.all_eq_true, List.mem_range] at h
  have hj' : l[j]? = some oj := by simpa using hj
  have := h j (List.getElem?_eq_some_iff.1 hj').1
  simp only [hj', hw, Bool.not_true, Bool.or_false, Bool.or_eq_true, beq_iff_eq, hne, false_or] at this
  obtain ⟨e, he, hb⟩ := Array.any_eq_true'.1 this
  simp only [Bool.and_eq_true, beq_iff_eq] at hb
  exact ⟨e, he, hb.1, hb.2⟩

section
variable {P : Program} {n : Nat} {l : List Oper} {S : World → Prop} {W : Nat → Bool} {Q : Env → World → Prop} {fuel : Nat} {listed : Array Bool} {ρ : Env} {w : World}
variable {d ty : Nat} {op : Op} {pos : String} {af : Array Edge}

theorem WP.regionDraw (S : World → Prop) (W : Nat → Bool) {Q : Exit → Env → World → Prop} {id : Nat} (hm : P.follows .mixedOrders = true) (hd : dstsOk n l = true) (h : ∀ w', w' = w.drew → AnyV P l.toArray S W (Q .normal) l.length (Array.replicate l.length false) ρ w') : WP P n (.region id l.toArray true) Q ρ w := fun a ha =>
  wp_region_any hm (by have := AnyV.any (S := S) (W := W) hd _ _ _ _ a ha (h _ rfl); simpa using this)

theorem AnyV.take {i : Nat} {v : Value} (hi : l[i]? = some (Oper.mk (some d) op ty pos af none)) (hs : Region.noSelect l.toArray = true) (hf : Region.free .any l.toArray listed i = true)
    (hr : (Region.ready .any l.toArray listed).contains i = true) (hW : waitsB l i W = true) (hS : S w) (hy : ∀ w, S w → (execOp (ev ρ) (Oper.mk (some d) op ty pos af none)).run P w = .ok (.value v) w)
    (h : AnyV P l.toArray S W Q fuel (listed.setIfInBounds i true) (upd ρ d v) w) : AnyV P l.toArray S W Q (fuel + 1) listed ρ w :=
  AnyV.first (oi := Oper.mk (some d) op ty pos af none) (by simpa using hi) (Region.noSelect_spec hs) (waitsB_spec hW) fuel listed ρ w (Region.free_spec (by simpa using hi) hf) (by simpa using hr) (.inl ⟨rfl, hy⟩) hS h

theorem AnyV.takeT {i j s : Nat} {b t : Bool} {v : Value} (hi : l[i]? = some (Oper.mk (some d) op ty pos af (some (j, b)))) (hg : (l[j]?).bind (fun o : Oper => o.dst) = some s) (hv : ρ s = .bool t) (ht : t = b) (hs : Region.noSelect l.toArray = true) (hf : Region.free .any l.toArray listed i = true)
    (hr : (Region.ready .any l.toArray listed).contains i = true) (hW : waitsB l i W = true) (hS : S w) (hy : ∀ w, S w → (execOp (ev ρ) (Oper.mk (some d) op ty pos af none)).run P w = .ok (.value v) w)
    (h : AnyV P l.toArray S W Q fuel (listed.setIfInBounds i true) (upd ρ d v) w) : AnyV P l.toArray S W Q (fuel + 1) listed ρ w :=
  AnyV.first (oi := Oper.mk (some d) op ty pos af (some (j, b))) (by simpa using hi) (Region.noSelect_spec hs) (waitsB_spec hW) fuel listed ρ w (Region.free_spec (by simpa using hi) hf) (by simpa using hr)
    (.inl ⟨by simp only [wantedE, List.getElem?_toArray, hg, hv, ht]; simp, hy⟩) hS h
theorem AnyV.takeF {i j s : Nat} {b t : Bool} (hi : l[i]? = some (Oper.mk (some d) op ty pos af (some (j, b)))) (hg : (l[j]?).bind (fun o : Oper => o.dst) = some s) (hv : ρ s = .bool t) (ht : t = !b) (hs : Region.noSelect l.toArray = true) (hf : Region.free .any l.toArray listed i = true)
    (hr : (Region.ready .any l.toArray listed).contains i = true) (hW : waitsB l i W = true) (hS : S w)
    (h : AnyV P l.toArray S W Q fuel (listed.setIfInBounds i true) (upd ρ d undef) w) : AnyV P l.toArray S W Q (fuel + 1) listed ρ w :=
  AnyV.first (oi := Oper.mk (some d) op ty pos af (some (j, b))) (by simpa using hi) (Region.noSelect_spec hs) (waitsB_spec hW) fuel listed ρ w (Region.free_spec (by simpa using hi) hf) (by simpa using hr)
    (.inr ⟨by simp only [wantedE, List.getElem?_toArray, hg, hv, ht]; cases b <;> simp, rfl⟩) hS h

/-- The one operation that may come up. -/
theorem AnyV.one {i : Nat} {o : Oper} (hi : l[i]? = some o) (hr : Region.ready .any l.toArray listed = [i])
    (h : Ops P l.toArray (fun ρ' w' => (W i = true ∨ S w') ∧ AnyV P l.toArray S W Q fuel (listed.setIfInBounds i true) ρ' w') [o] ρ w) : AnyV P l.toArray S W Q (fuel + 1) listed ρ w := by
  refine ⟨fun h0 => (by rw [hr] at h0; cases h0), fun j hj o' ho' => ?_⟩
  rw [hr, List.mem_singleton] at hj
  subst hj
  have : o' = o := by
    rw [List.getElem?_toArray, hi] at ho'
    exact (Option.some.inj ho').symm
  subst this
  exact h

theorem AnyV.done (hr : Region.ready .any l.toArray listed = []) (h : Q ρ w) : AnyV P l.toArray S W Q fuel listed ρ w := by
  cases fuel with
  | zero => exact ⟨hr, h⟩
  | succ fuel => exact ⟨fun _ => h, by rw [hr]; intro i hi; cases hi⟩

theorem AnyV.case {t : Bool} {s : Nat} (_ : ρ s = .bool t) (h1 : t = true → AnyV P l.toArray S W Q fuel listed ρ w) (h2 : t = false → AnyV P l.toArray S W Q fuel listed ρ w) : AnyV P l.toArray S W Q fuel listed ρ w := by
  cases t
  · exact h2 rfl
  · exact h1 rfl
end
end Go.Proofs.YtlfhoiakmbcnlaaDoor
