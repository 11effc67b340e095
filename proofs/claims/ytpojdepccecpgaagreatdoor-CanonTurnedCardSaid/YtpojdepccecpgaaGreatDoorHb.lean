/- What is made, written, grown, called. No conditions but bounds. -/
import Derived.Test.YtpojdepccecpgaaGreatDoorHa
import Derived.RegionTactic
import Derived.Laws.StructEq
set_option linter.unusedVariables false
set_option linter.unusedSimpArgs false
set_option linter.unusedSectionVars false
namespace Go.Proofs.YtpojdepccecpgaaGreatDoor
theorem nm {ρ ρ' : Env} (h : ρ' = ρ) (t : Nat) : ∃ v, ρ' t = v ∧ v = ρ t := ⟨ρ t, congrFun h t, rfl⟩
section
variable {P : Program} {n : Nat} {Q : Exit → Env → World → Prop} {ρ : Env} {w : World}
theorem WP.env {c : Code} (h : ∀ ρ', ρ' = ρ → WP P n c Q ρ' w) : WP P n c Q ρ w := h ρ rfl
variable {R : Value → World → Prop}
theorem run_loadVar_agg {b off : Nat} {T : TypeId} {cs : List Value} (ha : ∀ w, (isAgg T).run P w = .ok true w) (hs : ∀ w, (sizeOf T).run P w = .ok cs.length w) (hv : ∀ j v, cs[j]? = some v → w.cell? ⟨b, off + j, none⟩ = some v) :
  (loadVar T ⟨b, off, none⟩).run P w = .ok (.agg cs.toArray) w := by
 have hl := run_loadCells_list (P := P) w ⟨b, off, none⟩ cs (fun j v hj => by rw [addr_add]; exact hv j v hj)
 simp [loadVar, ha, hs, hl]
theorem run_loadVar_one {b off : Nat} {T : TypeId} {v : Value} (ha : ∀ w, (isAgg T).run P w = .ok false w) (hv : w.cell? ⟨b, off, none⟩ = some v) : (loadVar T ⟨b, off, none⟩).run P w = .ok v w := by
 simp [loadVar, ha, hv]
end
section
variable {P : Program} {ops : Array Oper} {K : Env → World → Prop} {ρ : Env} {w : World} {rest : List Oper}
variable {d d2 ty ty2 : Nat} {pos pos2 : String} {af af2 : Array Edge} {x y z : Operand} {t u e : TypeId}
variable {I : Ghost} {O A : List (Nat × Obj)} {E : World}
theorem Ops.case {s : Nat} {t : Bool} {l : List Oper} (hv : ρ s = .bool t) (h1 : t = true → Ops P ops K l ρ w) (h2 : t = false → Ops P ops K l ρ w) : Ops P ops K l ρ w := by
 have _ := hv
 cases t
 ·exact h2 rfl
 ·exact h1 rfl
def dstsOf (l : List Oper) : List Nat := l.filterMap (·.dst)
theorem Ops.frame : ∀ (l : List Oper) (ρ : Env) (w : World), Ops P ops K l ρ w → Ops P ops (fun ρ' w' => K ρ' w' ∧ ∀ t, (dstsOf l).contains t = false → ρ' t = ρ t) l ρ w
 | [], _, _, h => ⟨h, fun _ _ => rfl⟩
 | o :: rest, ρ, w, h => by
  have key : ∀ v, ∀ ρ' w', (K ρ' w' ∧ ∀ t, (dstsOf rest).contains t = false → ρ' t = updO ρ o.dst v t) → (K ρ' w' ∧ ∀ t, (dstsOf (o :: rest)).contains t = false → ρ' t = ρ t) := by
   rintro v ρ' w' ⟨h1, h2⟩
   refine ⟨h1, fun t ht => ?_⟩
   cases hd : o.dst with
   | none =>
    simp only [dstsOf, List.filterMap_cons, hd] at ht
    rw [h2 t ht, hd]; rfl
   | some d =>
    simp only [dstsOf, List.filterMap_cons, hd, List.contains_cons, Bool.or_eq_false_iff] at ht
    rw [h2 t ht.2, hd]
    exact upd_other _ _ (by simpa using ht.1)
  unfold Ops at *
  split
  ·rename_i hw; rw [if_pos hw] at h
   exact h.mono fun v w' hv => yu (key v) _ _ _ (Ops.frame rest _ _ hv)
  ·rename_i hw; rw [if_neg hw] at h
   exact yu (key undef) _ _ _ (Ops.frame rest _ _ h)
theorem Ops.field {fs : Array Field} {f : Field} {i : Nat} {b off r : Nat} {sz : Nat} (ht : P.underlying t = some (.struct fs)) (hf : fs[i]? = some f) (hs : ∀ w, (sizeOf f.type).run P w = .ok sz w) (hz : sz ≠ 0)
  (hx : ev ρ x = .pointer (some ⟨b, off, none⟩)) (hr : off + f.offset = r) (h : Ops P ops K rest (upd ρ d (.pointer (some ⟨b, r, none⟩))) w) :
  Ops P ops K (Oper.mk (some d) (.fieldAddr t x i) ty pos af none :: rest) ρ w :=
 Ops.val (by subst hr; simp [execOp, hx, Instr.fieldAt, run_underlying ht, hf, Instr.sureAddr, fieldPlace, hs, hz, addr_add]) h
theorem drop_get {cs tl : List Value} {off : Nat} {v : Value} (h : cs.drop off = v :: tl) : cs[off]? = some v := by
 have := congrArg (fun l => l[0]?) h
 simpa using this
theorem Ops.build {l : List (Nat × Operand)} {vals : List (Nat × Value)} {v : Value} (hrun : (Instr.build t vals.toArray).run P w = .ok v w) (hv : l.map (fun p => (p.1, ev ρ p.2)) = vals) (h : Ops P ops K rest (upd ρ d v) w) :
  Ops P ops K (Oper.mk (some d) (.build t l.toArray) ty pos af none :: rest) ρ w :=
 Ops.val (by subst hv; simp only [execOp, List.map_toArray]; rw [Sem.run_bind, hrun]; rfl) h
theorem Ops.buildSlice0 {i : TypeInfo} (ht : P.underlying t = some (.slice e)) (hi : P.info? e = some i) (hS : SL I O E w) (h : ∀ b w', SL I ([(b, .cells [].toArray e (0, 0))] ++ O) E w' → Ops P ops K rest (upd ρ d (.slice (some ⟨b, 0, none⟩) 0 0)) w') :
  Ops P ops K (Oper.mk (some d) (.buildSlice t 0 #[]) ty pos af none :: rest) ρ w := by
 refine q9 rfl ?_
 unfold OpW
 have : (execOp (ev ρ) (Oper.mk (some d) (.buildSlice t 0 #[]) ty pos af none)).run P w = .ok (.value (.slice (some ⟨w.heap.size, 0, none⟩) 0 0)) (w.alloc (.cells #[] e)) := by
  simp [execOp, Instr.buildSlice, run_underlying ht, sizeOf, typeInfo, hi, Instr.fill, newRow]
  congr 2
  exact Array.eq_empty_of_size_eq_zero (by simp)
 rw [this]
 exact h _ _ (hS.alloc _)
end
theorem madeCells_one (z : Value) (m : Nat) : madeCells #[z] m = (List.replicate m z).toArray := by
 apply Array.ext
 ·simp [madeCells]
 ·intro i h1 h2
  simp [madeCells, Nat.mod_one]
section
variable {P : Program} {ops : Array Oper} {K : Env → World → Prop} {ρ : Env} {w : World} {rest : List Oper}
variable {d ty : Nat} {pos : String} {af : Array Edge} {x y : Operand} {t e : TypeId}
variable {I : Ghost} {O : List (Nat × Obj)} {E : World}
theorem Ops.make1 {i : TypeInfo} {zv z1 : Value} {m : Nat} {k1 k2 : IntKind} {l l' : Int} (ht : P.underlying t = some (.slice e)) (hi : P.info? e = some i) (hz : i.zero = some zv) (hzc : zv.cells = #[z1]) (hk : i.size = 1) (hx : ev ρ x = .int k1 l) (hy : ev ρ y = .int k2 l')
  (hl : l = (m : Int)) (hl' : l' = (m : Int)) (hb : (i.bytes : Int) * (m : Int) ≤ 281474976710656) (hm : m ≤ 281474976710656) (hS : SL I O E w)
  (h : ∀ b w', SL I ([(b, .cells (List.replicate m z1).toArray e (0, 0))] ++ O) E w' → Ops P ops K rest (upd ρ d (.slice (some ⟨b, 0, none⟩) m m)) w') :
  Ops P ops K (Oper.mk (some d) (.makeSlice t x y) ty pos af none :: rest) ρ w := by
 refine q9 rfl ?_
 unfold OpW
 subst hl hl'
 have hrun := run_make (P := P) w t e i zv ht hi hz k1 k2 m m (by omega) (by omega) hb (by omega)
 rw [hzc, hk, Nat.mul_one, Int.toNat_natCast, madeCells_one] at hrun
 have : (execOp (ev ρ) (Oper.mk (some d) (.makeSlice t x y) ty pos af none)).run P w = .ok (.value (.slice (some ⟨w.heap.size, 0, none⟩) m m)) (w.alloc (.cells (List.replicate m z1).toArray e)) := by
  simp [execOp, hx, hy, hrun]
 rw [this]
 exact h _ _ (hS.alloc _)
end
abbrev Own := List (Nat × Obj)
theorem At.mono' {I J : Ghost} {O O' : Own} {b i : Nat} {v : Value} (h : At I O b i v) (hl : I.le J) (hO : ∀ x ∈ O, x ∈ O') : At J O' b i v := by
 rcases h with ⟨c, T, f, hb, hv⟩ | ⟨c, T, f, hm, hv⟩
 ·exact .inl ⟨c, T, f, hl _ _ hb, hv⟩
 ·exact .inr ⟨c, T, f, hO _ hm, hv⟩
def Sl {α : Type} (k : Nat) (R : Ghost → Own → List Value → α → Prop) (I : Ghost) (O : Own) (a : Option Addr) (n cap : Nat) (xs : List α) : Prop :=
 n = xs.length ∧ n ≤ cap ∧ (a = none → cap = 0) ∧ ∀ (j : Nat) (x : α), xs[j]? = some x → ∃ b off l, a = some ⟨b, off, none⟩ ∧ l.length = k ∧ R I O l x ∧ ∀ i u, l[i]? = some u → At I O b (off + j * k + i) u
def Stays {α : Type} (R : Ghost → Own → List Value → α → Prop) : Prop := ∀ I J O O' l x, I.le J → (∀ x ∈ O, x ∈ O') → R I O l x → R J O' l x
theorem Sl.mono' {α : Type} {k : Nat} {R : Ghost → Own → List Value → α → Prop} (hR : Stays R) {I J : Ghost} {O O' : Own} {a : Option Addr} {n cap : Nat} {xs : List α} (hl : I.le J) (hO : ∀ x ∈ O, x ∈ O') (h : Sl k R I O a n cap xs) : Sl k R J O' a n cap xs :=
 ⟨h.1, h.2.1, h.2.2.1, fun j x hj => let ⟨b, off, l, h1, h2, h3, h4⟩ := h.2.2.2 j x hj; ⟨b, off, l, h1, h2, hR _ _ _ _ _ _ hl hO h3, fun i u hi => (h4 i u hi).mono' hl hO⟩⟩
section
variable {P : Program} {ops : Array Oper} {K : Env → World → Prop} {ρ : Env} {w : World} {rest : List Oper}
variable {d d2 ty ty2 : Nat} {pos pos2 : String} {af af2 : Array Edge} {x y z : Operand} {t u e : TypeId}
variable {I : Ghost} {O A : Own} {E : World} {α : Type} {R : Ghost → Own → List Value → α → Prop} {xs : List α} {v : α}
theorem At.weak {b i : Nat} {v : Value} (h : At I [] b i v) (O : Own) : At I O b i v := h.mono (Ghost.le.refl I) O
end
def RInt (_ : Ghost) (_ : Own) (l : List Value) (x : Int) : Prop := l = [.int .i64 x]
theorem RInt.stays : Stays RInt := fun _ _ _ _ _ _ _ _ h => h
abbrev Ints := Sl 1 RInt
def RInts (I : Ghost) (O : Own) (l : List Value) (xs : List Int) : Prop := ∃ a n c, l = [.slice a n c] ∧ Ints I O a n c xs
theorem RInts.stays : Stays RInts := fun _ _ _ _ _ _ h h' ⟨a, n, c, e, hx⟩ => ⟨a, n, c, e, Sl.mono' RInt.stays h h' hx⟩
theorem SL.swap {I : Ghost} {A B O : Own} {E w : World} (h : SL I (A ++ (B ++ O)) E w) : SL I (B ++ (A ++ O)) E w := h.perm (by
 rw [← List.append_assoc, ← List.append_assoc]
 exact List.perm_append_comm.append_right O)
theorem Src.one {I : Ghost} {O : Own} {b : Nat} {v : Value} {T : TypeId} {f : Nat × Nat} (hb : I b = some (.cells #[v] T f)) (hv : v.oneCell' = true) : Src I O 1 (some ⟨b, 0, none⟩) 1 [v] :=
 ⟨rfl, by simpa using hv, .inr ⟨_, rfl, fun j u hj => ⟨b, 0, rfl, .inl ⟨_, _, _, hb, by rw [Nat.zero_add]; simpa using hj⟩⟩⟩⟩
theorem Ints.src {I : Ghost} {O : Own} {a : Option Addr} {n c : Nat} {xs : List Int} (h : Ints I O a n c xs) : Src I O 1 a n (xs.map (Value.int .i64)) := by
 obtain ⟨hn, hc, hnil, hel⟩ := h
 refine ⟨by simp [hn], by simp [Value.oneCell'], ?_⟩
 cases a with
 | none => exact .inl ⟨rfl, by have := hnil rfl; omega⟩
 | some p =>
  refine .inr ⟨p, rfl, fun j u hj => ?_⟩
  rw [List.getElem?_map] at hj
  obtain ⟨y, hy, rfl⟩ := Option.map_eq_some_iff.1 hj
  obtain ⟨b, off, l, e, _, hr, hat⟩ := hel j y hy
  cases e
  rw [hr] at hat
  have := hat 0 _ rfl
  exact ⟨b, off, rfl, by simpa using this⟩
end Go.Proofs.YtpojdepccecpgaaGreatDoor
namespace Go.Proofs.YtpojdepccecpgaaGreatDoor
section
variable {P : Program} {ρ : Env} {w : World}
variable {d ty : Nat} {pos : String} {af : Array Edge} {x y z : Operand} {t u e : TypeId}
variable {I : Ghost} {O : Own} {E : World}
theorem Run.pickT {b : Bool} {v : Value} (hc : ev ρ x = .bool b) (hb : b = true) (hy : ev ρ y = v) :
  (execOp (ev ρ) (Oper.mk (some d) (.pick x y z) ty pos af none)).run P w = .ok (.value (v)) w :=
 (by subst hb; simp [execOp, hc, hy, asBool])
theorem Run.pickF {b : Bool} {v : Value} (hc : ev ρ x = .bool b) (hb : b = false) (hz : ev ρ z = v) :
  (execOp (ev ρ) (Oper.mk (some d) (.pick x y z) ty pos af none)).run P w = .ok (.value (v)) w :=
 (by subst hb; simp [execOp, hc, hz, asBool])
theorem Run.lss {k : IntKind} {a b : Int} (hx : ev ρ x = .int k a) (hy : ev ρ y = .int k b) :
  (execOp (ev ρ) (Oper.mk (some d) (.binOp .lss t x y u) ty pos af none)).run P w = .ok (.value ((.bool (decide (a < b))))) w :=
 (by rw [run_bin_int hx hy (by decide) (by decide)]; simp [binOp, Op.intCmp])
theorem Run.leq {k : IntKind} {a b : Int} (hx : ev ρ x = .int k a) (hy : ev ρ y = .int k b) :
  (execOp (ev ρ) (Oper.mk (some d) (.binOp .leq t x y u) ty pos af none)).run P w = .ok (.value ((.bool (decide (a ≤ b))))) w :=
 (by rw [run_bin_int hx hy (by decide) (by decide)]; simp [binOp, Op.intCmp])
theorem Run.gtr {k : IntKind} {a b : Int} (hx : ev ρ x = .int k a) (hy : ev ρ y = .int k b) :
  (execOp (ev ρ) (Oper.mk (some d) (.binOp .gtr t x y u) ty pos af none)).run P w = .ok (.value ((.bool (decide (b < a))))) w :=
 (by rw [run_bin_int hx hy (by decide) (by decide)]; simp [binOp, Op.intCmp])
theorem Run.geq {k : IntKind} {a b : Int} (hx : ev ρ x = .int k a) (hy : ev ρ y = .int k b) :
  (execOp (ev ρ) (Oper.mk (some d) (.binOp .geq t x y u) ty pos af none)).run P w = .ok (.value ((.bool (decide (b ≤ a))))) w :=
 (by rw [run_bin_int hx hy (by decide) (by decide)]; simp [binOp, Op.intCmp])
theorem Run.eqlI {k : IntKind} {a b : Int} (hx : ev ρ x = .int k a) (hy : ev ρ y = .int k b) :
  (execOp (ev ρ) (Oper.mk (some d) (.binOp .eql t x y u) ty pos af none)).run P w = .ok (.value ((.bool (decide (a = b))))) w :=
 (by
  rw [run_bin_int hx hy (by decide) (by decide)]
  have e : (decide (a = b)) = (a == b) := by by_cases h : a = b <;> simp [h]
  rw [e]; simp [binOp, Op.intCmp])
theorem Run.neqI {k : IntKind} {a b : Int} (hx : ev ρ x = .int k a) (hy : ev ρ y = .int k b) :
  (execOp (ev ρ) (Oper.mk (some d) (.binOp .neq t x y u) ty pos af none)).run P w = .ok (.value ((.bool (decide (a ≠ b))))) w :=
 (by
  rw [run_bin_int hx hy (by decide) (by decide)]
  have e : (decide (a ≠ b)) = (a != b) := by by_cases h : a = b <;> simp [h]
  rw [e]; simp [binOp, Op.intCmp])
theorem Run.add {a b : Int} (hx : ev ρ x = .int .i64 a) (hy : ev ρ y = .int .i64 b) (hr : I64 (a + b)) :
  (execOp (ev ρ) (Oper.mk (some d) (.binOp .add t x y u) ty pos af none)).run P w = .ok (.value ((.int .i64 (a + b)))) w :=
 (by rw [run_bin_int hx hy (by decide) (by decide)]; simp [binOp, Op.intArith, IntWalk.i64_in _ hr])
theorem Run.sub {a b : Int} (hx : ev ρ x = .int .i64 a) (hy : ev ρ y = .int .i64 b) (hr : I64 (a - b)) :
  (execOp (ev ρ) (Oper.mk (some d) (.binOp .sub t x y u) ty pos af none)).run P w = .ok (.value ((.int .i64 (a - b)))) w :=
 (by rw [run_bin_int hx hy (by decide) (by decide)]; simp [binOp, Op.intArith, IntWalk.i64_in _ hr])
theorem Run.mul {a b : Int} (hx : ev ρ x = .int .i64 a) (hy : ev ρ y = .int .i64 b) (hr : I64 (a * b)) :
  (execOp (ev ρ) (Oper.mk (some d) (.binOp .mul t x y u) ty pos af none)).run P w = .ok (.value ((.int .i64 (a * b)))) w :=
 (by rw [run_bin_int hx hy (by decide) (by decide)]; simp [binOp, Op.intArith, IntWalk.i64_in _ hr])
theorem Run.addW {k : IntKind} {a b : Int} (hx : ev ρ x = .int k a) (hy : ev ρ y = .int k b) :
  (execOp (ev ρ) (Oper.mk (some d) (.binOp .add t x y u) ty pos af none)).run P w = .ok (.value ((.int k (k.wrap (a + b))))) w :=
 (by rw [run_bin_int hx hy (by decide) (by decide)]; simp [binOp, Op.intArith])
theorem Run.mulW {k : IntKind} {a b : Int} (hx : ev ρ x = .int k a) (hy : ev ρ y = .int k b) :
  (execOp (ev ρ) (Oper.mk (some d) (.binOp .mul t x y u) ty pos af none)).run P w = .ok (.value ((.int k (k.wrap (a * b))))) w :=
 (by rw [run_bin_int hx hy (by decide) (by decide)]; simp [binOp, Op.intArith])
theorem Run.not {b : Bool} (hx : ev ρ x = .bool b) :
  (execOp (ev ρ) (Oper.mk (some d) (.unOp .not t x) ty pos af none)).run P w = .ok (.value ((.bool (!b)))) w :=
 (by simp [execOp, hx, unary_not])
theorem Run.extract {vs : Array Value} {ix : Nat} {v : Value} (hx : ev ρ x = .tuple vs) (hv : vs[ix]? = some v) :
  (execOp (ev ρ) (Oper.mk (some d) (.extract x ix) ty pos af none)).run P w = .ok (.value (v)) w :=
 (by simp [execOp, hx, Instr.extract, hv])
theorem Run.nilCheck {a : Addr} (hx : ev ρ x = .pointer (some a)) :
  (execOp (ev ρ) (Oper.mk (some d) (.nilCheck x) ty pos af none)).run P w = .ok (.value ((.pointer (some a)))) w :=
 (by simp [execOp, hx])
theorem Run.lenS {a : Option Addr} {n c : Nat} {e : TypeId} (ht : P.underlying t = some (.slice e)) (hx : ev ρ x = .slice a n c) :
  (execOp (ev ρ) (Oper.mk (some d) (.call { callee := .builtin .len, args := #[x], argTypes := #[t] }) ty pos af none)).run P w = .ok (.value ((.int .i64 n))) w :=
 (by simp [execOp, resolve, hx, invoke, builtin, Builtin.len_, run_underlying ht, goInt])
theorem Run.lenT {s : ByteArray} (ht : P.underlying t = some .string) (hx : ev ρ x = .string s) :
  (execOp (ev ρ) (Oper.mk (some d) (.call { callee := .builtin .len, args := #[x], argTypes := #[t] }) ty pos af none)).run P w = .ok (.value ((.int .i64 s.size))) w :=
 (by simp [execOp, resolve, hx, invoke, builtin, Builtin.len_, run_underlying ht, goInt])
theorem Run.eqNilS {a : Option Addr} {n c : Nat} {e : TypeId} (ht : P.underlying t = some (.slice e)) (hx : ev ρ x = .slice a n c) (hy : ev ρ y = .slice none 0 0) :
  (execOp (ev ρ) (Oper.mk (some d) (.binOp .eql t x y u) ty pos af none)).run P w = .ok (.value ((.bool a.isNone))) w :=
 (by simp only [execOp, hx, hy]; simp [eqGuard_slice, Lib.run_eql_slice_nil w t e a n c 0 0 ht])
theorem Run.eqlT {a b : ByteArray} (hx : ev ρ x = .string a) (hy : ev ρ y = .string b) :
  (execOp (ev ρ) (Oper.mk (some d) (.binOp .eql t x y u) ty pos af none)).run P w = .ok (.value ((.bool (decide (a = b))))) w :=
 (by
  rw [← bytes_eq]; simp only [execOp, hx, hy]; simp [eqGuard_string, binOp_string_eql])
theorem Run.neqT {a b : ByteArray} (hx : ev ρ x = .string a) (hy : ev ρ y = .string b) :
  (execOp (ev ρ) (Oper.mk (some d) (.binOp .neq t x y u) ty pos af none)).run P w = .ok (.value ((.bool (!decide (a = b))))) w :=
 (by
  rw [← bytes_eq]; simp only [execOp, hx, hy]; simp [eqGuard_string, binOp_string_neq])
theorem Run.eqlB {a b : Bool} (ht : P.underlying t = some .bool) (hx : ev ρ x = .bool a) (hy : ev ρ y = .bool b) :
  (execOp (ev ρ) (Oper.mk (some d) (.binOp .eql t x y u) ty pos af none)).run P w = .ok (.value ((.bool (a == b)))) w :=
 (by simp only [execOp, hx, hy]; simp [eqGuard_bool, run_eql_bool w t a b ht])
theorem Run.neqB {a b : Bool} (ht : P.underlying t = some .bool) (hx : ev ρ x = .bool a) (hy : ev ρ y = .bool b) :
  (execOp (ev ρ) (Oper.mk (some d) (.binOp .neq t x y u) ty pos af none)).run P w = .ok (.value ((.bool (!(a == b))))) w :=
 (by simp only [execOp, hx, hy]; simp [eqGuard_bool, run_neq_bool w t a b ht])
theorem Run.load1 {b off : Nat} {v : Value} (ha : ∀ w, (isAgg t).run P w = .ok false w) (hS : SL I O E w) (hx : ev ρ x = .pointer (some ⟨b, off, none⟩)) (hv : At I O b off v)
  :
  (execOp (ev ρ) (Oper.mk (some d) (.load t x) ty pos af none)).run P w = .ok (.value (v)) w :=
 (by simp [execOp, hx, Instr.loadAt, Instr.sureAddr, loadVar, ha, hS.at_ hv])
theorem Run.loadA {b off : Nat} {cs : List Value} (ha : ∀ w, (isAgg t).run P w = .ok true w) (hs : ∀ w, (sizeOf t).run P w = .ok cs.length w) (hS : SL I O E w) (hx : ev ρ x = .pointer (some ⟨b, off, none⟩))
  (hv : ∀ j v, cs[j]? = some v → At I O b (off + j) v) :
  (execOp (ev ρ) (Oper.mk (some d) (.load t x) ty pos af none)).run P w = .ok (.value ((.agg cs.toArray))) w :=
 (by
  have hl := run_loadCells_list (P := P) w ⟨b, off, none⟩ cs (fun j v hj => by rw [addr_add]; exact hS.at_ (hv j v hj))
  simp [execOp, hx, Instr.loadAt, Instr.sureAddr, loadVar, ha, hs, hl])
theorem Run.idx {b off n c j k : Nat} {e : TypeId} {i : Int} (ht : P.underlying t = some (.slice e)) (hs : ∀ w, (sizeOf e).run P w = .ok k w) (hx : ev ρ x = .slice (some ⟨b, off, none⟩) n c)
  (hy : ev ρ y = .int .i64 i) (hi : i = (j : Int)) (hj : j < n) :
  (execOp (ev ρ) (Oper.mk (some d) (.indexAddr t x y) ty pos af none)).run P w = .ok (.value ((.pointer (some ⟨b, off + j * k, none⟩)))) w :=
 (by
  subst hi
  simp [execOp, hx, hy, Instr.indexAt, asIntOf, run_underlying ht, hs, hj, addr_add])
theorem Run.field {fs : Array Field} {f : Field} {i : Nat} {b off r : Nat} {sz : Nat} (ht : P.underlying t = some (.struct fs)) (hf : fs[i]? = some f) (hs : ∀ w, (sizeOf f.type).run P w = .ok sz w) (hz : sz ≠ 0)
  (hx : ev ρ x = .pointer (some ⟨b, off, none⟩)) (hr : off + f.offset = r) :
  (execOp (ev ρ) (Oper.mk (some d) (.fieldAddr t x i) ty pos af none)).run P w = .ok (.value ((.pointer (some ⟨b, r, none⟩)))) w :=
 (by subst hr; simp [execOp, hx, Instr.fieldAt, run_underlying ht, hf, Instr.sureAddr, fieldPlace, hs, hz, addr_add])
theorem Run.build {l : List (Nat × Operand)} {vals : List (Nat × Value)} {v : Value} (hrun : (Instr.build t vals.toArray).run P w = .ok v w) (hv : l.map (fun p => (p.1, ev ρ p.2)) = vals) :
  (execOp (ev ρ) (Oper.mk (some d) (.build t l.toArray) ty pos af none)).run P w = .ok (.value (v)) w :=
 (by subst hv; simp only [execOp, List.map_toArray]; rw [Sem.run_bind, hrun]; rfl)
end
def dirty (W : Nat → Bool) (listed : Array Bool) : Prop := ∃ j, listed.getD j false = true ∧ W j = true
theorem dirty_mono {W : Nat → Bool} {listed : Array Bool} {i : Nat} (h : dirty W listed) : dirty W (listed.setIfInBounds i true) := by
 obtain ⟨j, h1, h2⟩ := h
 refine ⟨j, ?_, h2⟩
 rw [Array.getD_eq_getD_getElem?] at h1 ⊢
 rw [Array.getElem?_setIfInBounds]
 split
 ·rename_i e; subst e
  split
  ·rfl
  ·rename_i hn; rw [Array.getElem?_eq_none (by omega)] at h1; cases h1
 ·exact h1
theorem dirty_set {W : Nat → Bool} {listed : Array Bool} {i : Nat} (hi : W i = false) (h : dirty W (listed.setIfInBounds i true)) : dirty W listed := by
 obtain ⟨j, h1, h2⟩ := h
 refine ⟨j, ?_, h2⟩
 rw [Array.getD_eq_getD_getElem?] at h1 ⊢
 rw [Array.getElem?_setIfInBounds] at h1
 split at h1
 ·rename_i e; subst e; rw [hi] at h2; cases h2
 ·exact h1
def AnyV (P : Program) (ops : Array Oper) (S0 S : World → Prop) (W : Nat → Bool) (Q : Env → World → Prop) : Nat → Array Bool → Env → World → Prop
 | 0, listed, ρ, w => Region.ready .any ops listed = [] ∧ Q ρ w
 | fuel + 1, listed, ρ, w => (Region.ready .any ops listed = [] → Q ρ w) ∧
   ∀ i ∈ Region.ready .any ops listed, ∀ o, ops[i]? = some o → Ops P ops (fun ρ' w' => (S0 w' ∧ (dirty W (listed.setIfInBounds i true) ∨ S w')) ∧ AnyV P ops S0 S W Q fuel (listed.setIfInBounds i true) ρ' w') [o] ρ w
theorem AnyV.any {P : Program} {n : Nat} {l : List Oper} {S0 S : World → Prop} {W : Nat → Bool} {Q : Exit → Env → World → Prop} (hd : dstsOk n l = true) : ∀ (fuel : Nat) (listed : Array Bool) (ρ : Env) (w : World) (a : Act), Agree n a ρ →
  AnyV P l.toArray S0 S W (Q .normal) fuel listed ρ w → wpAny P .any l.toArray (lift n Q) fuel listed a w
 | 0, _, ρ, _, _, ha, h => ⟨h.1, ρ, ha, h.2⟩
 | fuel + 1, listed, ρ, w, a, ha, h => by
  refine ⟨fun h0 => ⟨ρ, ha, h.1 h0⟩, fun i hi => ?_⟩
  obtain ⟨_, o, ho, _⟩ := mem_ready.1 hi
  have h2 := h.2 i hi o ho
  have hdo : o.dst.all (fun d => decide (d < n)) = true := List.all_eq_true.1 hd _ (by simpa using Array.mem_of_getElem? ho)
  unfold wpOp
  simp only [ho]
  rw [wanted_eq ha _ _ (dst_lt hd)]
  unfold Ops at h2
  split
  ·rename_i hw; rw [if_pos hw] at h2
   exact .inl (h2.wp ha fun v w' ⟨_, h3⟩ => AnyV.any hd fuel _ _ _ _ (ha.put hdo v) h3)
  ·rename_i hw; rw [if_neg hw] at h2
   exact AnyV.any hd fuel _ _ _ _ (ha.put hdo undef) h2.2
theorem updO_comm (ρ : Env) {x y : Option Nat} (v u : Value) (h : ∀ d, x = some d → y ≠ some d) : updO (updO ρ x v) y u = updO (updO ρ y u) x v := by
 cases x with
 | none => rfl
 | some d =>
  cases y with
  | none => rfl
  | some e =>
   have hne : d ≠ e := fun he => h d rfl (he ▸ rfl)
   funext t
   simp only [updO]
   by_cases h1 : t = d
   ·subst h1; rw [upd_other _ _ hne, upd_same, upd_same]
   ·rw [upd_other _ _ h1]
    by_cases h2 : t = e
    ·subst h2; rw [upd_same, upd_same]
    ·rw [upd_other _ _ h2, upd_other _ _ h2, upd_other _ _ h1]
theorem ev_updO {ρ : Env} {ops : Array Oper} {o : Oper} {d : Option Nat} {v : Value} (h : ∀ e, d = some e → e ∉ o.looksAt ops) : ∀ x ∈ o.op.operands, ev (updO ρ d v) x = ev ρ x := by
 intro x hx
 cases d with
 | none => rfl
 | some e =>
  cases x with
  | tmp t =>
   have : t ≠ e := fun he => h e rfl (by
    subst he
    exact List.mem_append_left _ (List.mem_filterMap.2 ⟨.tmp t, by simpa using hx, rfl⟩))
   exact upd_other _ _ this
  | _ => rfl
theorem wantedE_updO {ρ : Env} {ops : Array Oper} {o : Oper} {d : Option Nat} {v : Value} (h : ∀ e, d = some e → e ∉ o.looksAt ops) : wantedE ops o (updO ρ d v) = wantedE ops o ρ := by
 cases d with
 | none => rfl
 | some e =>
  unfold wantedE
  cases hg : o.guard with
  | none => rfl
  | some gw =>
   obtain ⟨g, want⟩ := gw
   dsimp only
   cases ht : (ops[g]?).bind (fun o : Oper => o.dst) with
   | none => rfl
   | some t =>
    have hne : t ≠ e := fun he => h e rfl (by subst he; simp [Oper.looksAt, hg, ht])
    have : updO ρ (some e) v t = ρ t := upd_other _ _ hne
    simp only [this]
def Gives (P : Program) (ops : Array Oper) (S : World → Prop) (o : Oper) (v : Value) (ρ : Env) : Prop :=
 (wantedE ops o ρ = true ∧ ∀ w, S w → (execOp (ev ρ) o).run P w = .ok (.value v) w) ∨ (wantedE ops o ρ = false ∧ v = undef)
theorem Gives.ops {P : Program} {ops : Array Oper} {S : World → Prop} {o : Oper} {v : Value} {ρ : Env} {K : Env → World → Prop} {w : World} (h : Gives P ops S o v ρ) (hS : S w) (hK : K (updO ρ o.dst v) w) : Ops P ops K [o] ρ w := by
 unfold Ops
 rcases h with ⟨h1, h2⟩ | ⟨h1, rfl⟩
 ·rw [if_pos h1]; unfold OpW; rw [h2 w hS]; exact hK
 ·rw [if_neg (by simp [h1])]; exact hK
theorem AnyV.first {P : Program} {ops : Array Oper} {S0 S : World → Prop} {W : Nat → Bool} {Q : Env → World → Prop} {i : Nat} {oi : Oper} {v : Value} (hi : ops[i]? = some oi) (hsel : ∀ (j : Nat) (o : Oper) cs b, ops[j]? = some o → o.op ≠ .select cs b)
  {Sx : World → Prop} {C : Array Bool → Prop} (hWi : W i = false)
  (hC : ∀ listed (j : Nat) oj, C listed → ops[j]? = some oj → j ≠ i → (∀ e ∈ oj.after, Region.binds .any e = true → e.on ≠ i) → C (listed.setIfInBounds j true)) (hX : ∀ listed w, C listed → S0 w → (dirty W listed ∨ S w) → Sx w) :
  ∀ (fuel : Nat) (listed : Array Bool) (ρ : Env) (w : World),
   (∀ j oj, ops[j]? = some oj → j ≠ i → listed.getD j true = false → (∀ e ∈ oj.after, Region.binds .any e = true → e.on ≠ i) → oi.apart ops oj = true) →
   i ∈ Region.ready .any ops listed → Gives P ops Sx oi v ρ → C listed → S0 w → (dirty W listed ∨ S w) →
   AnyV P ops S0 S W Q fuel (listed.setIfInBounds i true) (updO ρ oi.dst v) w → AnyV P ops S0 S W Q (fuel + 1) listed ρ w := by
 intro fuel
 induction fuel with
 | zero =>
  intro listed ρ w _ hr hy hCl hS0 hS H
  refine ⟨fun h => (by rw [h] at hr; cases hr), fun j hj o ho => ?_⟩
  by_cases hji : j = i
  ·subst hji
   rw [hi] at ho; cases ho
   exact hy.ops (hX _ _ hCl hS0 hS) ⟨⟨hS0, hS.imp dirty_mono id⟩, H⟩
  ·have := ready_mono hj hji
   rw [H.1] at this
   cases this
 | succ fuel ih =>
  intro listed ρ w hfree hr hy hCl hS0 hS H
  refine ⟨fun h => (by rw [h] at hr; cases hr), fun j hj oj hoj => ?_⟩
  by_cases hji : j = i
  ·subst hji
   rw [hi] at hoj; cases hoj
   exact hy.ops (hX _ _ hCl hS0 hS) ⟨⟨hS0, hS.imp dirty_mono id⟩, H⟩
  ·obtain ⟨hjun, oj', hoj', hall⟩ := mem_ready.1 hj
   rw [hoj] at hoj'; cases hoj'
   have hnot : ∀ e ∈ oj.after, Region.binds .any e = true → e.on ≠ i := fun e he hb heq => by
    have h1 := hall e he hb
    have h0 := (mem_ready.1 hr).1
    rw [heq] at h1
    rcases Nat.lt_or_ge i listed.size with h' | h'
    ·simp [h'] at h0 h1; rw [h0] at h1; cases h1
    ·simp [Array.getElem?_eq_none h'] at h1
   have h1 := H.2 j (ready_mono hj hji) oj hoj
   obtain ⟨a1, a2, a3⟩ := Oper.apart_spec (hfree j oj hoj hji hjun hnot)
   have hwt := wantedE_updO (ρ := ρ) (v := v) (ops := ops) (o := oj) (d := oi.dst) a1
   have hex : execOp (ev (updO ρ oi.dst v)) oj = execOp (ev ρ) oj := execOp_congr oj (fun cs b => hsel j oj cs b hoj) (ev_updO a1)
   have hfree' : ∀ k ok, ops[k]? = some ok → k ≠ i → (listed.setIfInBounds j true).getD k true = false →
     (∀ e ∈ ok.after, Region.binds .any e = true → e.on ≠ i) → oi.apart ops ok = true := fun k ok hk hki hun hno => by
    refine hfree k ok hk hki ?_ hno
    by_cases hjk : j = k
    ·subst hjk; exact hjun
    ·rw [getD_set_ne true hjk] at hun; exact hun
   have keep : ∀ u, Gives P ops Sx oi v (updO ρ oj.dst u) := fun u => by
    unfold Gives at *
    rw [wantedE_updO a3, execOp_congr oi (fun cs b => hsel i oi cs b hi) (ev_updO a3)]
    exact hy
   have next : ∀ u w', ((S0 w' ∧ (dirty W ((listed.setIfInBounds i true).setIfInBounds j true) ∨ S w')) ∧ AnyV P ops S0 S W Q fuel ((listed.setIfInBounds i true).setIfInBounds j true) (updO (updO ρ oi.dst v) oj.dst u) w') →
     (S0 w' ∧ (dirty W (listed.setIfInBounds j true) ∨ S w')) ∧ AnyV P ops S0 S W Q (fuel + 1) (listed.setIfInBounds j true) (updO ρ oj.dst u) w' := by
    rintro u w' ⟨h2, h3⟩
    have hS' : dirty W (listed.setIfInBounds j true) ∨ S w' := h2.2.imp (fun h => by
     rw [Array.setIfInBounds_comm _ _ (Ne.symm hji)] at h
     exact dirty_set hWi h) id
    refine ⟨⟨h2.1, hS'⟩, ih _ _ _ hfree' (ready_mono hr (Ne.symm hji)) (keep u) (hC _ _ _ hCl hoj hji hnot) h2.1 hS' ?_⟩
    rw [← updO_comm ρ v u a2, Array.setIfInBounds_comm _ _ hji]
    exact h3
   unfold Ops at h1 ⊢
   rw [hwt] at h1
   split
   ·rename_i hw; rw [if_pos hw] at h1
    unfold OpW at h1 ⊢
    rw [hex] at h1
    split
    ·rename_i heq; rw [heq] at h1; exact next _ _ h1
    ·rename_i heq; rw [heq] at h1; exact next _ _ h1
    ·rename_i heq; rw [heq] at h1
     exact h1.mono fun e w'' ⟨u, he, hK⟩ => ⟨u, he, next _ _ hK⟩
    ·rename_i h4 h5 h6
     split at h1
     ·rename_i heq; exact (h4 _ _ heq).elim
     ·rename_i heq; exact (h5 _ heq).elim
     ·rename_i heq; exact (h6 _ _ _ heq).elim
     ·exact h1
   ·rename_i hw; rw [if_neg hw] at h1
    exact next _ _ h1
def waitsB (l : List Oper) (i : Nat) (W : Nat → Bool) : Bool := (List.range l.length).all fun j => j == i || !W j || (match l[j]? with | some oj => oj.after.any (fun e => Region.binds .any e && e.on == i) | none => true)
theorem waitsB_spec {l : List Oper} {i : Nat} {W : Nat → Bool} (h : waitsB l i W = true) (j : Nat) (oj : Oper) (hj : l.toArray[j]? = some oj) (hne : j ≠ i) (hw : W j = true) : ∃ e ∈ oj.after, Region.binds .any e = true ∧ e.on = i := by
 simp only [waitsB, List.all_eq_true, List.mem_range] at h
 have hj' : l[j]? = some oj := by simpa using hj
 have := h j (List.getElem?_eq_some_iff.1 hj').1
 simp only [hj', hw, Bool.not_true, Bool.or_false, Bool.or_eq_true, beq_iff_eq, hne, false_or] at this
 obtain ⟨e, he, hb⟩ := Array.any_eq_true'.1 this
 simp only [Bool.and_eq_true, beq_iff_eq] at hb
 exact ⟨e, he, hb.1, hb.2⟩
def cleanB (W : Nat → Bool) (listed : Array Bool) : Bool := (List.range listed.size).all fun j => !(listed.getD j false && W j)
theorem cleanB_spec {W : Nat → Bool} {listed : Array Bool} (h : cleanB W listed = true) : ¬ dirty W listed := fun ⟨j, h1, h2⟩ => by
 have hj : j < listed.size := by
  rcases Nat.lt_or_ge j listed.size with h | h
  ·exact h
  ·rw [Array.getD_eq_getD_getElem?, Array.getElem?_eq_none h] at h1; cases h1
 have := List.all_eq_true.1 h j (List.mem_range.2 hj)
 rw [h1, h2] at this; cases this
theorem waits_clean {l : List Oper} {i : Nat} {W : Nat → Bool} (hW : waitsB l i W = true) (listed : Array Bool) (j : Nat) (oj : Oper) (hc : ¬ dirty W listed) (hj : l.toArray[j]? = some oj) (hne : j ≠ i) (hno : ∀ e ∈ oj.after, Region.binds .any e = true → e.on ≠ i) : ¬ dirty W (listed.setIfInBounds j true) := fun h => by
 refine hc (dirty_set ?_ h)
 cases hw : W j with
 | false => rfl
 | true =>
  obtain ⟨e, he, hb, hon⟩ := waitsB_spec hW j oj hj hne hw
  exact absurd hon (hno e he hb)
section
variable {P : Program} {n : Nat} {l : List Oper} {S0 S : World → Prop} {W : Nat → Bool} {Q : Env → World → Prop} {fuel : Nat} {listed : Array Bool} {ρ : Env} {w : World}
variable {d ty : Nat} {op : Op} {pos : String} {af : Array Edge}
theorem WP.regionDraw (S0 S : World → Prop) (W : Nat → Bool) {Q : Exit → Env → World → Prop} {id : Nat} (hm : P.follows .mixedOrders = true) (hd : dstsOk n l = true) (h : ∀ w', w' = w.drew → AnyV P l.toArray S0 S W (Q .normal) l.length (Array.replicate l.length false) ρ w') : WP P n (.region id l.toArray true) Q ρ w := fun a ha =>
 wp_region_any hm (by have := AnyV.any (S0 := S0) (S := S) (W := W) hd _ _ _ _ a ha (h _ rfl); simpa using this)
theorem AnyV.take {i : Nat} {v : Value} (hi : l[i]? = some (Oper.mk (some d) op ty pos af none)) (hs : Region.noSelect l.toArray = true) (hf : Region.free .any l.toArray listed i = true)
  (hr : (Region.ready .any l.toArray listed).contains i = true) (hW : waitsB l i W = true) (hWi : W i = false) (hcl : cleanB W listed = true) (hS0 : S0 w) (hS : S w) (hy : ∀ w, S w → (execOp (ev ρ) (Oper.mk (some d) op ty pos af none)).run P w = .ok (.value v) w)
  (h : AnyV P l.toArray S0 S W Q fuel (listed.setIfInBounds i true) (upd ρ d v) w) : AnyV P l.toArray S0 S W Q (fuel + 1) listed ρ w :=
 AnyV.first (oi := Oper.mk (some d) op ty pos af none) (by simpa using hi) (Region.noSelect_spec hs) (Sx := S) (C := fun listed => ¬ dirty W listed) hWi (waits_clean hW) (fun _ _ h1 _ h2 => h2.resolve_left h1) fuel listed ρ w (Region.free_spec (by simpa using hi) hf) (by simpa using hr) (.inl ⟨rfl, hy⟩) (cleanB_spec hcl) hS0 (.inr hS) h
theorem AnyV.takeK {i : Nat} {v : Value} (hi : l[i]? = some (Oper.mk (some d) op ty pos af none)) (hs : Region.noSelect l.toArray = true) (hf : Region.free .any l.toArray listed i = true)
  (hr : (Region.ready .any l.toArray listed).contains i = true) (hWi : W i = false) (hS0 : S0 w) (hS : dirty W listed ∨ S w) (hy : ∀ w, S0 w → (execOp (ev ρ) (Oper.mk (some d) op ty pos af none)).run P w = .ok (.value v) w)
  (h : AnyV P l.toArray S0 S W Q fuel (listed.setIfInBounds i true) (upd ρ d v) w) : AnyV P l.toArray S0 S W Q (fuel + 1) listed ρ w :=
 AnyV.first (oi := Oper.mk (some d) op ty pos af none) (by simpa using hi) (Region.noSelect_spec hs) (Sx := S0) (C := fun _ => True) hWi (fun _ _ _ _ _ _ _ => trivial) (fun _ _ _ h _ => h) fuel listed ρ w (Region.free_spec (by simpa using hi) hf) (by simpa using hr) (.inl ⟨rfl, hy⟩) trivial hS0 hS h
theorem AnyV.takeT {i j s : Nat} {b t : Bool} {v : Value} (hi : l[i]? = some (Oper.mk (some d) op ty pos af (some (j, b)))) (hg : (l[j]?).bind (fun o : Oper => o.dst) = some s) (hv : ρ s = .bool t) (ht : t = b) (hs : Region.noSelect l.toArray = true) (hf : Region.free .any l.toArray listed i = true)
  (hr : (Region.ready .any l.toArray listed).contains i = true) (hW : waitsB l i W = true) (hWi : W i = false) (hcl : cleanB W listed = true) (hS0 : S0 w) (hS : S w) (hy : ∀ w, S w → (execOp (ev ρ) (Oper.mk (some d) op ty pos af none)).run P w = .ok (.value v) w)
  (h : AnyV P l.toArray S0 S W Q fuel (listed.setIfInBounds i true) (upd ρ d v) w) : AnyV P l.toArray S0 S W Q (fuel + 1) listed ρ w :=
 AnyV.first (oi := Oper.mk (some d) op ty pos af (some (j, b))) (by simpa using hi) (Region.noSelect_spec hs) (Sx := S) (C := fun listed => ¬ dirty W listed) hWi (waits_clean hW) (fun _ _ h1 _ h2 => h2.resolve_left h1) fuel listed ρ w (Region.free_spec (by simpa using hi) hf) (by simpa using hr)
  (.inl ⟨by simp only [wantedE, List.getElem?_toArray, hg, hv, ht]; simp, hy⟩) (cleanB_spec hcl) hS0 (.inr hS) h
theorem AnyV.takeF {i j s : Nat} {b t : Bool} (hi : l[i]? = some (Oper.mk (some d) op ty pos af (some (j, b)))) (hg : (l[j]?).bind (fun o : Oper => o.dst) = some s) (hv : ρ s = .bool t) (ht : t = !b) (hs : Region.noSelect l.toArray = true) (hf : Region.free .any l.toArray listed i = true)
  (hr : (Region.ready .any l.toArray listed).contains i = true) (hW : waitsB l i W = true) (hWi : W i = false) (hcl : cleanB W listed = true) (hS0 : S0 w) (hS : S w)
  (h : AnyV P l.toArray S0 S W Q fuel (listed.setIfInBounds i true) (upd ρ d undef) w) : AnyV P l.toArray S0 S W Q (fuel + 1) listed ρ w :=
 AnyV.first (oi := Oper.mk (some d) op ty pos af (some (j, b))) (by simpa using hi) (Region.noSelect_spec hs) (Sx := S) (C := fun listed => ¬ dirty W listed) hWi (waits_clean hW) (fun _ _ h1 _ h2 => h2.resolve_left h1) fuel listed ρ w (Region.free_spec (by simpa using hi) hf) (by simpa using hr)
  (.inr ⟨by simp only [wantedE, List.getElem?_toArray, hg, hv, ht]; cases b <;> simp, rfl⟩) (cleanB_spec hcl) hS0 (.inr hS) h
theorem AnyV.one {i : Nat} {o : Oper} (hi : l[i]? = some o) (hr : Region.ready .any l.toArray listed = [i])
  (h : Ops P l.toArray (fun ρ' w' => (S0 w' ∧ (dirty W (listed.setIfInBounds i true) ∨ S w')) ∧ AnyV P l.toArray S0 S W Q fuel (listed.setIfInBounds i true) ρ' w') [o] ρ w) : AnyV P l.toArray S0 S W Q (fuel + 1) listed ρ w := by
 refine ⟨fun h0 => (by rw [hr] at h0; cases h0), fun j hj o' ho' => ?_⟩
 rw [hr, List.mem_singleton] at hj
 subst hj
 have : o' = o := by
  rw [List.getElem?_toArray, hi] at ho'
  exact (Option.some.inj ho').symm
 subst this
 exact h
theorem AnyV.done (hr : Region.ready .any l.toArray listed = []) (h : Q ρ w) : AnyV P l.toArray S0 S W Q fuel listed ρ w := by
 cases fuel with
 | zero => exact ⟨hr, h⟩
 | succ fuel => exact ⟨fun _ => h, by rw [hr]; intro i hi; cases hi⟩
theorem AnyV.case {t : Bool} {s : Nat} (_ : ρ s = .bool t) (h1 : t = true → AnyV P l.toArray S0 S W Q fuel listed ρ w) (h2 : t = false → AnyV P l.toArray S0 S W Q fuel listed ρ w) : AnyV P l.toArray S0 S W Q fuel listed ρ w := by
 cases t
 ·exact h2 rfl
 ·exact h1 rfl
end
end Go.Proofs.YtpojdepccecpgaaGreatDoor
namespace Go.Proofs.YtpojdepccecpgaaGreatDoor
section
variable {P : Program} {ops : Array Oper} {K : Env → World → Prop} {ρ : Env} {w : World} {rest : List Oper}
variable {d ty : Nat} {pos : String} {af : Array Edge} {x y : Operand} {t e : TypeId} {I : Ghost} {O : Own} {E : World}
theorem Fn.ofCalls {f : FuncId} {fn : Func} {c : Code} {args : Array Value} {R : Value → World → Prop} (hf : P.funcs[f]? = some fn) (hb : fn.body = some c) (hn : fn.name ≠ "runtime.NumGoroutine")
  (h : Calls P f args w fun e w' => ∃ v, e = .returned v ∧ R v w') : Fn P f args w R := ⟨⟨fn, c, hf, hb, hn⟩, h⟩
theorem SL.below {w' : World} (h : SL I O E w) (hb : Go.RowKit.Below w.heap.size w w') : SL I O E w' :=
 ⟨hb.os.trans h.os, hb.output.trans h.output, hb.tape.trans h.tape, fun b o hI => by rw [hb.block b (lt_of_some (h.pers b o hI))]; exact h.pers b o hI,
  fun x hx => by rw [hb.block x.1 (lt_of_some (h.own x hx))]; exact h.own x hx, h.nodup, h.apart, h.base, h.flat, h.oflat⟩
theorem Ops.index {v : Value} (hrun : (Instr.index t (ev ρ x) (ev ρ y)).run P w = .ok v w) (h : Ops P ops K rest (upd ρ d v) w) : Ops P ops K (Oper.mk (some d) (.index t x y) ty pos af none :: rest) ρ w :=
 Ops.val (by simp [execOp, hrun]) h
theorem Ops.rangeT {s : ByteArray} (ht : P.underlying t = some .string) (hS : SL I O E w) (hx : ev ρ x = .string s)
  (h : ∀ b w', SL I ((b, .stringIter s 0) :: O) E w' → Ops P ops K rest (upd ρ d (.pointer (some ⟨b, 0, none⟩))) w') : Ops P ops K (Oper.mk (some d) (.range t x) ty pos af none :: rest) ρ w := by
 refine q9 rfl ?_
 unfold OpW
 have : (execOp (ev ρ) (Oper.mk (some d) (.range t x) ty pos af none)).run P w = .ok (.value (.pointer (some ⟨w.heap.size, 0, none⟩))) (w.alloc (.stringIter s 0)) := by
  simp [execOp, Instr.range, hx, run_underlying ht]
 rw [this]
 exact h _ _ (hS.alloc _)
theorem run_getObj_str {s : ByteArray} {p b : Nat} (hb : w.heap[b]? = some (.stringIter s p)) : (getObj b).run P w = .ok (.stringIter s p) w := by
 unfold getObj; rw [Sem.run, hb]; rfl
theorem run_setObj_str {s : ByteArray} {p b : Nat} (hb : w.heap[b]? = some (.stringIter s p)) (o : Obj) : (setObj b o).run P w = .ok () { w with heap := w.heap.setIfInBounds b o } := by
 unfold setObj; rw [Sem.run, hb]; rfl
theorem Ops.nextT {s : ByteArray} {p b : Nat} (hS : SL I ((b, .stringIter s p) :: O) E w) (hx : ev ρ x = .pointer (some ⟨b, 0, none⟩)) (hp : p < s.size)
  (h : ∀ w', SL I ((b, .stringIter s (p + (Utf8.decode s p).2)) :: O) E w' → Ops P ops K rest (upd ρ d (.tuple [.bool true, .int .i64 p, .int .i32 (Utf8.decode s p).1].toArray)) w') : Ops P ops K (Oper.mk (some d) (.next x true) ty pos af none :: rest) ρ w := by
 have hb := hS.own _ (.head _)
 simp only at hb
 refine q9 rfl ?_
 unfold OpW
 have : (execOp (ev ρ) (Oper.mk (some d) (.next x true) ty pos af none)).run P w = .ok (.value (.tuple [.bool true, .int .i64 p, .int .i32 (Utf8.decode s p).1].toArray)) { w with heap := w.heap.setIfInBounds b (.stringIter s (p + (Utf8.decode s p).2)) } := by
  simp [execOp, Instr.next, hx, run_getObj_str hb, run_setObj_str hb, Result.andThen, hp, goInt]
 rw [this]
 refine h _ (hS.turn rfl rfl rfl ?_ ?_)
 ·simp [lt_of_some hb]
 ·intro k hk; simp [Array.getElem?_setIfInBounds, Ne.symm hk]
theorem Ops.nextTover {s : ByteArray} {p b : Nat} (hS : SL I ((b, .stringIter s p) :: O) E w) (hx : ev ρ x = .pointer (some ⟨b, 0, none⟩)) (hp : ¬ p < s.size)
  (h : Ops P ops K rest (upd ρ d (.tuple [.bool false].toArray)) w) : Ops P ops K (Oper.mk (some d) (.next x true) ty pos af none :: rest) ρ w := by
 have hb := hS.own _ (.head _)
 simp only at hb
 refine q9 rfl ?_
 unfold OpW
 have : (execOp (ev ρ) (Oper.mk (some d) (.next x true) ty pos af none)).run P w = .ok (.value (.tuple [.bool false].toArray)) w := by
  simp [execOp, Instr.next, hx, run_getObj_str hb, Result.andThen, hp]
 rw [this]
 exact h
section
variable {n : Nat} {R : Value → World → Prop}
end
theorem decode_ascii {s : ByteArray} {p : Nat} {b : UInt8} (h : s.data[p]? = some b) (hb : b < 128) : Utf8.decode s p = (b.toNat, 1) := by
 unfold Utf8.decode
 have h1 : s.get! p = b := by
  show s.data[p]! = b
  rw [getElem!_def, h]
 have h2 : b.toNat < 128 := hb
 simp [h1, h2]
theorem Ops.nextA {s : ByteArray} {p b : Nat} {c : UInt8} (hS : SL I ((b, .stringIter s p) :: O) E w) (hx : ev ρ x = .pointer (some ⟨b, 0, none⟩)) (hc : s.data[p]? = some c) (hc2 : c < 128)
  (h : ∀ w', SL I ((b, .stringIter s (p + 1)) :: O) E w' → Ops P ops K rest (upd ρ d (.tuple [.bool true, .int .i64 p, .int .i32 (c.toNat : Int)].toArray)) w') : Ops P ops K (Oper.mk (some d) (.next x true) ty pos af none :: rest) ρ w := by
 have hp : p < s.size := by
  by_cases hp : p < s.data.size
  ·exact hp
  ·rw [Array.getElem?_eq_none (by omega)] at hc; cases hc
 refine Ops.nextT hS hx hp ?_
 rw [decode_ascii hc hc2]
 exact h
theorem Ops.guardU {dd : Option Nat} {op : Op} {j s : Nat} {b : Bool} (hs : (ops[j]?).bind (fun o : Oper => o.dst) = some s) (hv : ρ s = undef)
  (k : Ops P ops K rest (updO ρ dd undef) w) : Ops P ops K (Oper.mk dd op ty pos af (some (j, b)) :: rest) ρ w := by
 unfold Ops
 rw [if_neg (by simp only [wantedE, hs, hv]; simp [undef])]
 exact k
theorem Ops.guardUd {op : Op} {j s : Nat} {b : Bool} (hs : (ops[j]?).bind (fun o : Oper => o.dst) = some s) (hv : ρ s = undef)
  (k : Ops P ops K rest (upd ρ d undef) w) : Ops P ops K (Oper.mk (some d) op ty pos af (some (j, b)) :: rest) ρ w := Ops.guardU hs hv k
def RStr (_ : Ghost) (_ : Own) (l : List Value) (x : ByteArray) : Prop := l = [.string x]
theorem RStr.stays : Stays RStr := fun _ _ _ _ _ _ _ _ h => h
theorem SL.more {w' : World} (h : SL I O E w) (h1 : w'.os = w.os) (h2 : w'.output = w.output) (h3 : w'.tape = w.tape) (h4 : ∀ k, k < w.heap.size → w'.heap[k]? = w.heap[k]?) : SL I O E w' :=
 ⟨h1.trans h.os, h2.trans h.output, h3.trans h.tape, fun b o hI => by rw [h4 b (lt_of_some (h.pers b o hI))]; exact h.pers b o hI,
  fun x hx => by rw [h4 x.1 (lt_of_some (h.own x hx))]; exact h.own x hx, h.nodup, h.apart, h.base, h.flat, h.oflat⟩
theorem Sl.place {α : Type} {k : Nat} {R : Ghost → Own → List Value → α → Prop} {xs : List α} {v : α} {a : Option Addr} {n c j : Nat} (hR : Sl k R I O a n c xs) (hj : xs[j]? = some v) :
  ∃ b off l, a = some ⟨b, off, none⟩ ∧ j < n ∧ l.length = k ∧ R I O l v ∧ ∀ i u, l[i]? = some u → At I O b (off + j * k + i) u := by
 obtain ⟨hn, _, _, hel⟩ := hR
 obtain ⟨b, off, l, h1, h2, h3, h4⟩ := hel j v hj
 exact ⟨b, off, l, h1, by rw [hn]; exact (List.getElem?_eq_some_iff.1 hj).1, h2, h3, h4⟩
end
end Go.Proofs.YtpojdepccecpgaaGreatDoor
namespace Go.Proofs.YtpojdepccecpgaaGreatDoor
inductive AV where
 | any
 | bool (b : Bool)
 | int (k : IntKind) (n : Int)
 | str (s : ByteArray)
 | agg (cs : List AV)
 | tup (vs : List AV)
 | fro (k : Nat) (rows : List (List AV))
 | own (id n : Nat)
 | po (id off : Nat)
 | os (id off n : Nat)
 | pf (cs : List AV)
 | raw (v : Value)
 | fn (f : FuncId) (first captured : List AV)
 | ifc (t : TypeId) (v : AV)
 | ext (p : Ghost → Value → Prop)
 deriving Inhabited
structure G where
 k : Ghost
 h : Nat → Option (Option Nat × Nat)
structure G.le (I J : G) : Prop where
 k : I.k.le J.k
 h : ∀ i x, I.h i = some x → J.h i = some x
theorem G.le.refl (I : G) : I.le I := ⟨Ghost.le.refl _, fun _ _ h => h⟩
theorem G.le.trans {I J K : G} (h : I.le J) (k : J.le K) : I.le K := ⟨h.k.trans k.k, fun i x hi => k.h i x (h.h i x hi)⟩
def KAt (I : Ghost) (b i : Nat) (v : Value) : Prop := ∃ c T f, I b = some (.cells c T f) ∧ c[i]? = some v
theorem KAt.mono {I J : Ghost} (h : I.le J) {b i : Nat} {v : Value} (hk : KAt I b i v) : KAt J b i v := let ⟨c, T, f, h1, h2⟩ := hk; ⟨c, T, f, h _ _ h1, h2⟩
theorem KAt.at_ {I : Ghost} {b i : Nat} {v : Value} (h : KAt I b i v) (O : List (Nat × Obj)) : At I O b i v := .inl h
def adr (b : Option Nat) : Option Addr := b.map fun b => ⟨b, 0, none⟩
mutual
def RepV (I : G) : AV → Value → Prop
 | .any, _ => True
 | .bool b, v => v = .bool b
 | .int k n, v => v = .int k n
 | .str s, v => v = .string s
 | .agg cs, v => ∃ vs : List Value, v = .agg vs.toArray ∧ RepL I cs vs
 | .tup cs, v => ∃ vs : List Value, v = .tuple vs.toArray ∧ RepL I cs vs
 | .fro k rows, v => ∃ a n c, v = .slice a n c ∧ n = rows.length ∧ n ≤ c ∧ (a = none → c = 0) ∧ RepR I k a 0 rows
 | .own id n, v => ∃ b c, I.h id = some (b, c) ∧ v = .slice (adr b) n c
 | .po id off, v => ∃ b c, I.h id = some (some b, c) ∧ v = .pointer (some ⟨b, off, none⟩)
 | .os id off n, v => ∃ b c, I.h id = some (some b, c) ∧ v = .slice (some ⟨b, off, none⟩) n n
 | .pf cs, v => ∃ b off vs, v = .pointer (some ⟨b, off, none⟩) ∧ RepL I cs vs ∧ ∀ (j : Nat) u, vs[j]? = some u → KAt I.k b (off + j) u
 | .raw w, v => v = w
 | .fn f a c, v => ∃ vs us : List Value, v = .func (.func f) vs.toArray us.toArray ∧ RepL I a vs ∧ RepL I c us
 | .ifc t x, v => ∃ u, v = .iface t u ∧ RepV I x u
 | .ext p, v => v.oneCell' = true ∧ ∀ J : Ghost, I.k.le J → p J v
def RepL (I : G) : List AV → List Value → Prop
 | [], vs => vs = []
 | x :: xs, vs => ∃ v us, vs = v :: us ∧ RepV I x v ∧ RepL I xs us
def RepR (I : G) (k : Nat) (a : Option Addr) (j : Nat) : List (List AV) → Prop
 | [] => True
 | r :: rs => (∃ b off vs, a = some ⟨b, off, none⟩ ∧ vs.length = k ∧ RepL I r vs ∧ ∀ (i : Nat) u, vs[i]? = some u → KAt I.k b (off + j * k + i) u) ∧ RepR I k a (j + 1) rs
end
mutual
theorem RepV.mono {I J : G} (h : I.le J) : ∀ (x : AV) (v : Value), RepV I x v → RepV J x v
 | .any, _, _ => trivial
 | .bool _, _, e => e
 | .int _ _, _, e => e
 | .str _, _, e => e
 | .agg cs, _, ⟨vs, e, h1⟩ => ⟨vs, e, RepL.mono h cs vs h1⟩
 | .tup cs, _, ⟨vs, e, h1⟩ => ⟨vs, e, RepL.mono h cs vs h1⟩
 | .fro k rows, _, ⟨a, n, c, e, h1, h2, h3, h4⟩ => ⟨a, n, c, e, h1, h2, h3, RepR.mono h k a 0 rows h4⟩
 | .own id _, _, ⟨b, c, h1, e⟩ => ⟨b, c, h.h _ _ h1, e⟩
 | .po id _, _, ⟨b, c, h1, e⟩ => ⟨b, c, h.h _ _ h1, e⟩
 | .os id _ _, _, ⟨b, c, h1, e⟩ => ⟨b, c, h.h _ _ h1, e⟩
 | .pf cs, _, ⟨b, off, vs, e, h1, h2⟩ => ⟨b, off, vs, e, RepL.mono h cs vs h1, fun j u hj => (h2 j u hj).mono h.k⟩
 | .raw _, _, e => e
 | .fn _ a c, _, ⟨vs, us, e, h1, h2⟩ => ⟨vs, us, e, RepL.mono h a vs h1, RepL.mono h c us h2⟩
 | .ifc _ x, _, ⟨u, e, h1⟩ => ⟨u, e, RepV.mono h x u h1⟩
 | .ext _, _, ⟨h1, h2⟩ => ⟨h1, fun J hJ => h2 J (h.k.trans hJ)⟩
theorem RepL.mono {I J : G} (h : I.le J) : ∀ (x : List AV) (v : List Value), RepL I x v → RepL J x v
 | [], _, e => e
 | x :: xs, _, ⟨v, us, e, h1, h2⟩ => ⟨v, us, e, RepV.mono h x v h1, RepL.mono h xs us h2⟩
theorem RepR.mono {I J : G} (h : I.le J) (k : Nat) (a : Option Addr) (j : Nat) : ∀ (rows : List (List AV)), RepR I k a j rows → RepR J k a j rows
 | [], _ => trivial
 | r :: rs, ⟨⟨b, off, vs, e, h1, h2, h3⟩, h4⟩ => ⟨⟨b, off, vs, e, h1, RepL.mono h r vs h2, fun i u hi => (h3 i u hi).mono h.k⟩, RepR.mono h k a (j + 1) rs h4⟩
end
theorem RepL.length {I : G} : ∀ {xs : List AV} {vs : List Value}, RepL I xs vs → vs.length = xs.length
 | [], _, e => by simp [RepL] at e; simp [e]
 | x :: xs, _, ⟨v, us, e, _, h2⟩ => by subst e; simp [RepL.length h2]
theorem RepL.get {I : G} : ∀ {xs : List AV} {vs : List Value}, RepL I xs vs → ∀ {j : Nat} {x : AV}, xs[j]? = some x → ∃ v, vs[j]? = some v ∧ RepV I x v
 | [], _, _, j, x, hj => by simp at hj
 | y :: ys, _, ⟨v, us, e, h1, h2⟩, j, x, hj => by
  subst e
  cases j with
  | zero => simp at hj; subst hj; exact ⟨v, rfl, h1⟩
  | succ j => simp at hj; simpa using RepL.get h2 hj
theorem RepL.take {I : G} : ∀ {xs : List AV} {vs : List Value}, RepL I xs vs → ∀ n, RepL I (xs.take n) (vs.take n)
 | [], _, e, n => by simp [RepL] at e; simp [e, RepL]
 | y :: ys, _, ⟨v, us, e, h1, h2⟩, n => by
  subst e
  cases n with
  | zero => simp [RepL]
  | succ n => exact ⟨v, us.take n, by simp, h1, RepL.take h2 n⟩
theorem RepL.drop {I : G} : ∀ {xs : List AV} {vs : List Value}, RepL I xs vs → ∀ n, RepL I (xs.drop n) (vs.drop n)
 | [], _, e, n => by simp [RepL] at e; simp [e, RepL]
 | y :: ys, _, ⟨v, us, e, h1, h2⟩, n => by
  subst e
  cases n with
  | zero => exact ⟨v, us, rfl, h1, h2⟩
  | succ n => simpa using RepL.drop h2 n
theorem RepL.append {I : G} : ∀ {xs ys : List AV} {vs us : List Value}, RepL I xs vs → RepL I ys us → RepL I (xs ++ ys) (vs ++ us)
 | [], _, _, _, e, h => by simp [RepL] at e; simpa [e] using h
 | y :: ys, _, _, _, ⟨v, us, e, h1, h2⟩, h => by subst e; exact ⟨v, _, rfl, h1, RepL.append h2 h⟩
theorem RepL.set {I : G} : ∀ {xs : List AV} {vs : List Value}, RepL I xs vs → ∀ (j : Nat) {x : AV} {v : Value}, RepV I x v → RepL I (xs.set j x) (vs.set j v)
 | [], _, e, j, _, _, _ => by simp [RepL] at e; simp [e, RepL]
 | y :: ys, _, ⟨v, us, e, h1, h2⟩, j, x, u, hx => by
  subst e
  cases j with
  | zero => exact ⟨u, us, rfl, hx, h2⟩
  | succ j => exact ⟨v, _, rfl, h1, RepL.set h2 j hx⟩
theorem RepR.get {I : G} {k : Nat} {a : Option Addr} : ∀ {rows : List (List AV)} {j0 : Nat}, RepR I k a j0 rows → ∀ {j : Nat} {r : List AV}, rows[j]? = some r →
  ∃ b off vs, a = some ⟨b, off, none⟩ ∧ vs.length = k ∧ RepL I r vs ∧ ∀ (i : Nat) u, vs[i]? = some u → KAt I.k b (off + (j0 + j) * k + i) u
 | [], _, _, j, r, hj => by simp at hj
 | r :: rs, j0, ⟨h1, h2⟩, j, r', hj => by
  cases j with
  | zero => simp at hj; subst hj; simpa using h1
  | succ j =>
   simp at hj
   have := RepR.get h2 hj
   have e : j0 + 1 + j = j0 + (j + 1) := by omega
   rwa [e] at this
theorem RepR.intro {I : G} {k : Nat} {a : Option Addr} : ∀ {rows : List (List AV)} {j0 : Nat}, (∀ (j : Nat) (r : List AV), rows[j]? = some r →
  ∃ b off vs, a = some ⟨b, off, none⟩ ∧ vs.length = k ∧ RepL I r vs ∧ ∀ (i : Nat) u, vs[i]? = some u → KAt I.k b (off + (j0 + j) * k + i) u) → RepR I k a j0 rows
 | [], _, _ => trivial
 | r :: rs, j0, h => ⟨by simpa using h 0 r rfl, RepR.intro fun j r' hj => by
   have := h (j + 1) r' (by simpa using hj)
   have e : j0 + 1 + j = j0 + (j + 1) := by omega
   rwa [e]⟩
theorem RepL.one {I : G} {x : AV} {v : Value} (h : RepV I x v) : RepL I [x] [v] := ⟨v, [], rfl, h, rfl⟩
def AV.cell : AV → Bool
 | .any | .agg _ | .tup _ => false
 | .raw v => v.oneCell'
 | _ => true
theorem AV.cell_rep {I : G} {x : AV} {v : Value} (h : RepV I x v) (hc : x.cell = true) : v.oneCell' = true := by
 cases x <;> simp only [RepV, AV.cell] at h hc
 all_goals first
  | (cases hc; done)
  | exact h.1
  | (subst h; first | rfl | exact hc)
  | (obtain ⟨_, _, _, e, _⟩ := h; subst e; rfl)
  | (obtain ⟨_, _, e, _⟩ := h; subst e; rfl)
  | (obtain ⟨_, _, _, e⟩ := h; subst e; rfl)
  | (obtain ⟨_, e, _⟩ := h; subst e; rfl)
abbrev AEnv := Nat → AV
def RepE (I : G) (e : AEnv) (ρ : Env) : Prop := ∀ t, RepV I (e t) (ρ t)
def aupd (e : AEnv) (d : Nat) (v : AV) : AEnv := fun t => bif Nat.beq t d then v else e t
def aupdO (e : AEnv) (d : Option Nat) (v : AV) : AEnv := match d with | some d => aupd e d v | none => e
def aev (e : AEnv) : Operand → AV
 | .tmp t => e t
 | .const (.bool b) => .bool b
 | .const (.int k n) => .int k n
 | .const (.string s) => .str s
 | .const v => .raw v
 | .global g => .raw (.pointer (some ⟨g, 0, none⟩))
 | .func f => .fn f [] []
theorem RepE.upd {I : G} {e : AEnv} {ρ : Env} (h : RepE I e ρ) (d : Nat) {x : AV} {v : Value} (hx : RepV I x v) : RepE I (aupd e d x) (upd ρ d v) := fun t => by
 unfold aupd Go.Proofs.YtpojdepccecpgaaGreatDoor.upd
 cases Nat.beq t d
 ·exact h t
 ·exact hx
theorem RepE.updO {I : G} {e : AEnv} {ρ : Env} (h : RepE I e ρ) (d : Option Nat) {x : AV} {v : Value} (hx : RepV I x v) : RepE I (aupdO e d x) (updO ρ d v) := by
 cases d with
 | none => exact h
 | some d => exact h.upd d hx
theorem RepE.ev {I : G} {e : AEnv} {ρ : Env} (h : RepE I e ρ) : ∀ x, RepV I (aev e x) (ev ρ x)
 | .tmp t => h t
 | .const v => by cases v <;> exact rfl
 | .global _ => rfl
 | .func _ => ⟨[], [], rfl, rfl, rfl⟩
theorem RepE.mono {I J : G} {e : AEnv} {ρ : Env} (hl : I.le J) (h : RepE I e ρ) : RepE J e ρ := fun t => RepV.mono hl _ _ (h t)
theorem RepE.evs {I : G} {e : AEnv} {ρ : Env} (h : RepE I e ρ) : ∀ l : List Operand, RepL I (l.map (aev e)) (l.map (Go.Proofs.YtpojdepccecpgaaGreatDoor.ev ρ))
 | [] => rfl
 | x :: l => ⟨_, _, rfl, h.ev x, h.evs l⟩
inductive AObj where
 | cells (T : TypeId) (cs : List AV)
 | grow (k : Nat) (T : TypeId) (cs : List AV)
 | iter (s : ByteArray) (p : Nat)
 | heap (p : List (Nat × Obj) → Prop)
 | heapG (p : G → List (Nat × Obj) → Prop) (hp : ∀ I J L, G.le I J → p I L → p J L)
 deriving Inhabited
abbrev OL := List (Nat × AObj)
def RepO (I : G) (x : Nat × AObj) (L : List (Nat × Obj)) : Prop :=
 match x.2 with
 | .cells T cs => ∃ b c vs, I.h x.1 = some (some b, c) ∧ RepL I cs vs ∧ (∀ u ∈ vs, u.oneCell' = true) ∧ L = [(b, .cells vs.toArray T (0, 0))]
 | .grow k T cs => ∃ b c n vs, I.h x.1 = some (b, c) ∧ RepL I cs vs ∧ (∀ u ∈ vs, u.oneCell' = true) ∧ OwnS k T (adr b) n c vs L
 | .iter s p => ∃ b c, I.h x.1 = some (some b, c) ∧ L = [(b, .stringIter s p)]
 | .heap p => p L
 | .heapG p _ => p I L
def RepOs (I : G) : OL → List (Nat × Obj) → Prop
 | [], L => L = []
 | x :: xs, L => ∃ A B, L = A ++ B ∧ RepO I x A ∧ RepOs I xs B
theorem RepO.mono {I J : G} (h : I.le J) {x : Nat × AObj} {L : List (Nat × Obj)} (hx : RepO I x L) : RepO J x L := by
 obtain ⟨i, o⟩ := x
 cases o <;> simp only [RepO] at *
 ·obtain ⟨b, c, vs, h1, h2, h3⟩ := hx; exact ⟨b, c, vs, h.h _ _ h1, RepL.mono h _ _ h2, h3⟩
 ·obtain ⟨b, c, n, vs, h1, h2, h3⟩ := hx; exact ⟨b, c, n, vs, h.h _ _ h1, RepL.mono h _ _ h2, h3⟩
 ·obtain ⟨b, c, h1, h2⟩ := hx; exact ⟨b, c, h.h _ _ h1, h2⟩
 ·exact hx
 ·rename_i p hp; exact hp _ _ _ h hx
theorem RepOs.mono {I J : G} (h : I.le J) : ∀ {O : OL} {L : List (Nat × Obj)}, RepOs I O L → RepOs J O L
 | [], _, e => e
 | _ :: _, _, ⟨A, B, e, h1, h2⟩ => ⟨A, B, e, h1.mono h, RepOs.mono h h2⟩
theorem RepOs.append {I : G} : ∀ {O O' : OL} {L : List (Nat × Obj)}, RepOs I (O ++ O') L ↔ ∃ A B, L = A ++ B ∧ RepOs I O A ∧ RepOs I O' B
 | [], O', L => ⟨fun h => ⟨[], L, rfl, rfl, h⟩, fun ⟨A, B, e, h1, h2⟩ => by
   have h1 : A = [] := h1
   subst h1; subst e; exact h2⟩
 | x :: O, O', L => by
  constructor
  ·rintro ⟨A, B, e, h1, h2⟩
   obtain ⟨C, D, e2, h3, h4⟩ := RepOs.append.1 h2
   exact ⟨A ++ C, D, by simp [e, e2], ⟨A, C, rfl, h1, h3⟩, h4⟩
  ·rintro ⟨A, B, e, ⟨C, D, e2, h1, h2⟩, h3⟩
   exact ⟨C, D ++ B, by simp [e, e2], h1, RepOs.append.2 ⟨D, B, rfl, h2, h3⟩⟩
def SLA (I : G) (O : OL) (F : List (Nat × Obj)) (E w : World) : Prop :=
 (∃ top, ∀ i, top ≤ i → I.h i = none) ∧ ∃ L, RepOs I O L ∧ SL I.k (L ++ F) E w
inductive Pick : OL → Nat → AObj → OL → Prop
 | head {i o O} : Pick ((i, o) :: O) i o O
 | tail {x O i o O'} : Pick O i o O' → Pick (x :: O) i o (x :: O')
inductive Put : OL → Nat → AObj → AObj → OL → Prop
 | head {i o o' O} : Put ((i, o) :: O) i o o' ((i, o') :: O)
 | tail {x O i o o' O'} : Put O i o o' O' → Put (x :: O) i o o' (x :: O')
theorem Pick.rep {I : G} {O O' : OL} {i : Nat} {o : AObj} (h : Pick O i o O') : ∀ {L}, RepOs I O L → ∃ A B, L.Perm (A ++ B) ∧ RepO I (i, o) A ∧ RepOs I O' B := by
 induction h with
 | head => rintro L ⟨A, B, e, h1, h2⟩; exact ⟨A, B, e ▸ .refl _, h1, h2⟩
 | tail h ih =>
  rintro L ⟨A, B, e, h1, h2⟩
  obtain ⟨C, D, hp, h3, h4⟩ := ih h2
  refine ⟨C, A ++ D, ?_, h3, ⟨A, D, rfl, h1, h4⟩⟩
  subst e
  refine (hp.append_left A).trans ?_
  rw [← List.append_assoc, ← List.append_assoc]
  exact List.perm_append_comm.append_right D
theorem Put.rep {I : G} {O O' : OL} {i : Nat} {o o' : AObj} (h : Put O i o o' O') : ∀ {L}, RepOs I O L → ∃ A B, L.Perm (A ++ B) ∧ RepO I (i, o) A ∧
  ∀ {J : G} {A'}, I.le J → RepO J (i, o') A' → ∃ L', RepOs J O' L' ∧ L'.Perm (A' ++ B) := by
 induction h with
 | head => rintro L ⟨A, B, e, h1, h2⟩; exact ⟨A, B, e ▸ .refl _, h1, fun {J A'} hl h => ⟨A' ++ B, ⟨A', B, rfl, h, h2.mono hl⟩, .refl _⟩⟩
 | tail h ih =>
  rintro L ⟨A, B, e, h1, h2⟩
  obtain ⟨C, D, hp, h3, h4⟩ := ih h2
  refine ⟨C, A ++ D, ?_, h3, fun {J A'} hl h => ?_⟩
  ·subst e
   refine (hp.append_left A).trans ?_
   rw [← List.append_assoc, ← List.append_assoc]
   exact List.perm_append_comm.append_right D
  ·obtain ⟨L', h5, h6⟩ := h4 hl h
   refine ⟨A ++ L', ⟨A, L', rfl, h1.mono hl, h5⟩, ?_⟩
   refine (h6.append_left A).trans ?_
   rw [← List.append_assoc, ← List.append_assoc]
   exact List.perm_append_comm.append_right D
inductive Sub : OL → OL → Prop
 | refl (O) : Sub O O
 | keep {x O O'} : Sub O O' → Sub (x :: O) (x :: O')
 | drop {x O O'} : Sub O O' → Sub (x :: O) O'
theorem RepOs.sub {I : G} {O O' : OL} (h : Sub O O') : ∀ {L}, RepOs I O L → ∃ L', RepOs I O' L' ∧ L'.Sublist L := by
 induction h with
 | refl => intro L h; exact ⟨L, h, .refl _⟩
 | keep _ ih => rintro L ⟨A, B, e, h1, h2⟩; obtain ⟨B', h3, h4⟩ := ih h2; exact ⟨A ++ B', ⟨A, B', rfl, h1, h3⟩, e ▸ h4.append_left A⟩
 | drop _ ih => rintro L ⟨A, B, e, h1, h2⟩; obtain ⟨B', h3, h4⟩ := ih h2; exact ⟨B', h3, e ▸ h4.trans (List.sublist_append_right A B)⟩
theorem SLA.sub {I : G} {O O' : OL} {F : List (Nat × Obj)} {E w : World} (h : Sub O O') (hs : SLA I O F E w) : SLA I O' F E w := by
 obtain ⟨ht, L, hL, hS⟩ := hs
 obtain ⟨L', h1, h2⟩ := hL.sub h
 exact ⟨ht, L', h1, hS.sub (h2.append_right F)⟩
def Left (O O' : OL) : Prop := ∃ O'', Sub O O'' ∧ O'' = O'
theorem Left.sla {I : G} {O O' : OL} {F : List (Nat × Obj)} {E w : World} (h : Left O O') (hs : SLA I O F E w) : SLA I O' F E w := by
 obtain ⟨_, h1, rfl⟩ := h; exact hs.sub h1
end Go.Proofs.YtpojdepccecpgaaGreatDoor
namespace Go.Proofs.YtpojdepccecpgaaGreatDoor
def postE (I : G) (F : List (Nat × Obj)) (E : World) (Q : Exit → AEnv → OL → Prop) : Exit → Env → World → Prop := fun e ρ w => ∃ J env O, I.le J ∧ RepE J env ρ ∧ SLA J O F E w ∧ Q e env O
def postK (I : G) (F : List (Nat × Obj)) (E : World) (K : AEnv → OL → Prop) : Env → World → Prop := fun ρ w => ∃ J env O, I.le J ∧ RepE J env ρ ∧ SLA J O F E w ∧ K env O
theorem postE.up {I J : G} {F : List (Nat × Obj)} {E : World} {Q : Exit → AEnv → OL → Prop} (h : I.le J) {e : Exit} {ρ : Env} {w : World} : postE J F E Q e ρ w → postE I F E Q e ρ w :=
 fun ⟨K, env, O, h1, h2⟩ => ⟨K, env, O, h.trans h1, h2⟩
theorem postK.up {I J : G} {F : List (Nat × Obj)} {E : World} {Q : AEnv → OL → Prop} (h : I.le J) {ρ : Env} {w : World} : postK J F E Q ρ w → postK I F E Q ρ w :=
 fun ⟨K, env, O, h1, h2⟩ => ⟨K, env, O, h.trans h1, h2⟩
def AWP (P : Program) (E : World) (n : Nat) (c : Code) (Q : Exit → AEnv → OL → Prop) (env : AEnv) (O : OL) : Prop :=
 ∀ I F ρ w, RepE I env ρ → SLA I O F E w → WP P n c (postE I F E Q) ρ w
def aseqQ (K : AEnv → OL → Prop) (Q : Exit → AEnv → OL → Prop) : Exit → AEnv → OL → Prop := fun e env O =>
 match e with
 | .normal => K env O
 | e => Q e env O
def ablockQ (id : Nat) (Q : Exit → AEnv → OL → Prop) : Exit → AEnv → OL → Prop := fun e env O =>
 match e with
 | .exit i => if i = id then Q .normal env O else Q (.exit i) env O
 | e => Q e env O
section
variable {E : World} {P : Program} {n : Nat} {Q : Exit → AEnv → OL → Prop} {env : AEnv} {O : OL}
theorem aseqQ_ret {K : AEnv → OL → Prop} (h : Q .ret env O) : aseqQ K Q .ret env O := h
theorem ablockQ_ret {id : Nat} (h : Q .ret env O) : ablockQ id Q .ret env O := h
theorem AWP.mono {c : Code} {Q' : Exit → AEnv → OL → Prop} (h : AWP P E n c Q env O) (hq : ∀ e env O, Q e env O → Q' e env O) : AWP P E n c Q' env O :=
 fun I F ρ w h1 h2 => (h I F ρ w h1 h2).mono fun _ _ _ ⟨J, env, O, a, b, c, d⟩ => ⟨J, env, O, a, b, c, hq _ _ _ d⟩
theorem AWP.skip (h : Q .normal env O) : AWP P E n .skip Q env O := fun I _ _ _ h1 h2 => WP.skip ⟨I, env, O, .refl _, h1, h2, h⟩
theorem AWP.ret (h : Q .ret env O) : AWP P E n .ret Q env O := fun I _ _ _ h1 h2 => WP.ret ⟨I, env, O, .refl _, h1, h2, h⟩
theorem AWP.exit {id : Nat} (h : Q (.exit id) env O) : AWP P E n (.exit id) Q env O := fun I _ _ _ h1 h2 => WP.exit ⟨I, env, O, .refl _, h1, h2, h⟩
theorem AWP.seq {x y : Code} (h : AWP P E n x (aseqQ (AWP P E n y Q) Q) env O) : AWP P E n (.seq x y) Q env O := fun I F ρ w h1 h2 =>
 WP.seq ((h I F ρ w h1 h2).mono fun e ρ w ⟨J, env, O, a, b, c, d⟩ => by
  cases e <;> first | exact (d J F ρ w b c).mono (fun _ _ _ => postE.up a) | exact ⟨J, env, O, a, b, c, d⟩)
theorem AWP.block {id : Nat} {c : Code} (h : AWP P E n c (ablockQ id Q) env O) : AWP P E n (.block id c) Q env O := fun I F ρ w h1 h2 =>
 WP.block ((h I F ρ w h1 h2).mono fun e ρ w ⟨J, env, O, a, b, c, d⟩ => by
  cases e <;> try exact ⟨J, env, O, a, b, c, d⟩
  rename_i i
  simp only [ablockQ] at d
  simp only [blockQ]
  split <;> rename_i hi
  ·rw [if_pos hi] at d; exact ⟨J, env, O, a, b, c, d⟩
  ·rw [if_neg hi] at d; exact ⟨J, env, O, a, b, c, d⟩)
theorem AWP.cond {c : Operand} {x y : Code} {t : Bool} (hc : aev env c = .bool t) (h : t = true → AWP P E n x Q env O) (h' : t = false → AWP P E n y Q env O) : AWP P E n (.cond c x y) Q env O := fun I F ρ w h1 h2 =>
 WP.condB (t := t) (by have := h1.ev c; rw [hc] at this; exact this) (fun e => h e I F ρ w h1 h2) (fun e => h' e I F ρ w h1 h2)
theorem AWP.condP {c : Operand} {x y : Code} {p : Prop} [Decidable p] (hc : aev env c = .bool (decide p)) (h : p → AWP P E n x Q env O) (h' : ¬ p → AWP P E n y Q env O) : AWP P E n (.cond c x y) Q env O :=
 AWP.cond hc (fun e => h (of_decide_eq_true e)) (fun e => h' (of_decide_eq_false e))
theorem AWP.condT {c : Operand} {x y : Code} {t : Bool} (hc : aev env c = .bool t) (ht : t = true) (h : AWP P E n x Q env O) : AWP P E n (.cond c x y) Q env O := AWP.cond hc (fun _ => h) (fun e => by rw [ht] at e; cases e)
theorem AWP.condF {c : Operand} {x y : Code} {t : Bool} (hc : aev env c = .bool t) (ht : t = false) (h : AWP P E n y Q env O) : AWP P E n (.cond c x y) Q env O := AWP.cond hc (fun e => by rw [ht] at e; cases e) (fun _ => h)
theorem AWP.weak {c : Code} {env' : AEnv} (h : AWP P E n c Q env' O) (hw : ∀ t, env' t = .any ∨ env' t = env t) : AWP P E n c Q env O := fun I F ρ w h1 h2 =>
 h I F ρ w (fun t => by
  rcases hw t with e | e
  ·rw [e]; trivial
  ·rw [e]; exact h1 t) h2
def keep (env : AEnv) (l : List Nat) : AEnv := fun t => bif l.any (Nat.beq t) then env t else .any
def put (env : AEnv) : List (Nat × AV) → AEnv
 | [] => env
 | (d, v) :: l => aupd (put env l) d v
theorem AWP.keep (l : List Nat) {c : Code} (h : AWP P E n c Q (keep env l) O) : AWP P E n c Q env O := h.weak fun t => by
 unfold Go.Proofs.YtpojdepccecpgaaGreatDoor.keep
 cases l.any (Nat.beq t) <;> simp
def Tells (env : AEnv) : List (Nat × AV) → Prop
 | [] => True
 | (d, v) :: l => env d = v ∧ Tells env l
def Frames (env env' : AEnv) : List Nat → Prop
 | [] => True
 | d :: l => env' d = env d ∧ Frames env env' l
theorem put_weak {env env' : AEnv} {f : List Nat} {l : List (Nat × AV)} (h1 : Frames env env' f) (h2 : Tells env' l) : ∀ t, put (Go.Proofs.YtpojdepccecpgaaGreatDoor.keep env f) l t = .any ∨ put (Go.Proofs.YtpojdepccecpgaaGreatDoor.keep env f) l t = env' t := by
 intro t
 induction l with
 | nil =>
  simp only [put, Go.Proofs.YtpojdepccecpgaaGreatDoor.keep]
  cases hb : f.any (Nat.beq t) with
  | false => simp
  | true =>
   right
   simp only [cond_true]
   clear h2
   induction f with
   | nil => simp at hb
   | cons d f ih =>
    simp only [List.any_cons, Bool.or_eq_true] at hb
    rcases hb with hb | hb
    ·have : t = d := Nat.eq_of_beq_eq_true hb
     subst this; exact h1.1.symm
    ·exact ih h1.2 hb
 | cons x l ih =>
  obtain ⟨d, v⟩ := x
  simp only [put, aupd]
  cases hb : Nat.beq t d with
  | false => simpa using ih h2.2
  | true =>
   have : t = d := Nat.eq_of_beq_eq_true hb
   subst this; right; exact h2.1.symm
theorem AWP.cut {c : Code} (K : AEnv → OL → Prop) (h : AWP P E n c (aseqQ K Q) env O) (hj : ∀ env O, K env O → Q .normal env O) : AWP P E n c Q env O :=
 h.mono fun e ρ w hq => by cases e <;> first | exact hj _ _ hq | exact hq
theorem AWP.loop0 {γ : Type} {c : Code} (Inv : γ → AEnv → OL → Prop) (μ : γ → Nat) (g₀ : γ) (h₀ : Inv g₀ env O)
  (round : ∀ g env O, Inv g env O → AWP P E n c (aseqQ (fun env' O' => ∃ g', Inv g' env' O' ∧ μ g' < μ g) Q) env O) : AWP P E n (.loop c) Q env O := fun I F ρ w h1 h2 =>
 WP.loop (γ := γ) (fun g ρ w => ∃ J env O, I.le J ∧ RepE J env ρ ∧ SLA J O F E w ∧ Inv g env O) μ g₀ ⟨I, env, O, .refl _, h1, h2, h₀⟩
  (fun g ρ w ⟨J, env, O, hl, h3, h4, h5⟩ => (round g env O h5 J F ρ w h3 h4).mono fun e ρ' w' ⟨K, env', O', a, b, c, d⟩ => by
   cases e with
   | normal => obtain ⟨g', d1, d2⟩ := d; exact ⟨g', ⟨K, env', O', hl.trans a, b, c, d1⟩, d2⟩
   | exit _ => exact ⟨K, env', O', hl.trans a, b, c, d⟩
   | goto _ => exact ⟨K, env', O', hl.trans a, b, c, d⟩
   | ret => exact ⟨K, env', O', hl.trans a, b, c, d⟩
   | panic _ => exact ⟨K, env', O', hl.trans a, b, c, d⟩
   | outgrown => exact ⟨K, env', O', hl.trans a, b, c, d⟩)
theorem AWP.left {c : Code} {O' : OL} (hl : Left O O') (h : AWP P E n c Q env O') : AWP P E n c Q env O := fun I F ρ w h1 h2 => h I F ρ w h1 (hl.sla h2)
theorem Frames.refl (env : AEnv) : ∀ f, Frames env env f
 | [] => trivial
 | _ :: f => ⟨rfl, Frames.refl env f⟩
theorem AWP.loop {γ : Type} {c : Code} (f : List Nat) (S : γ → List (Nat × AV)) (M : γ → OL) (p : γ → Prop) (μ : γ → Nat) (g₀ : γ) (h₀ : Tells env (S g₀)) (hO : Left O (M g₀)) (hp : p g₀)
  (round : ∀ g, p g → AWP P E n c (aseqQ (fun env' O' => ∃ g', Frames env env' f ∧ Tells env' (S g') ∧ Left O' (M g') ∧ p g' ∧ μ g' < μ g) Q) (put (Go.Proofs.YtpojdepccecpgaaGreatDoor.keep env f) (S g)) (M g)) : AWP P E n (.loop c) Q env O :=
 AWP.loop0 (fun g env' O' => Frames env env' f ∧ Tells env' (S g) ∧ Left O' (M g) ∧ p g) μ g₀ ⟨Frames.refl env f, h₀, hO, hp⟩
  (fun g env' O' ⟨h1, h2, h3, h4⟩ => by
   refine (((round g h4).weak (put_weak h1 h2)).left h3).mono fun e env O hq => ?_
   cases e <;> try exact hq
   obtain ⟨g', a, b, c, d, e⟩ := hq
   exact ⟨g', ⟨a, b, c, d⟩, e⟩)
theorem AWP.cutS {γ : Type} {c d : Code} {Q' : Exit → AEnv → OL → Prop} (f : List Nat) (S : γ → List (Nat × AV)) (M : γ → OL) (p : γ → Prop) (h : AWP P E n c (aseqQ (fun env' O' => ∃ g, Frames env env' f ∧ Tells env' (S g) ∧ Left O' (M g) ∧ p g) Q) env O)
  (hQ : ∀ env O, AWP P E n d Q' env O → Q .normal env O) (hj : ∀ g, p g → AWP P E n d Q' (put (Go.Proofs.YtpojdepccecpgaaGreatDoor.keep env f) (S g)) (M g)) : AWP P E n c Q env O :=
 AWP.cut _ h fun env' O' ⟨g, h1, h2, h3, h4⟩ => hQ _ _ (((hj g h4).weak (put_weak h1 h2)).left h3)
end
def AOps (P : Program) (E : World) (ops : Array Oper) (K : AEnv → OL → Prop) (l : List Oper) (env : AEnv) (O : OL) : Prop :=
 ∀ I F ρ w, RepE I env ρ → SLA I O F E w → Ops P ops (postK I F E K) l ρ w
def Gv (P : Program) (env : AEnv) (O : OL) (o : Oper) (x : AV) : Prop :=
 ∀ (I : G) L E ρ, RepE I env ρ → RepOs I O L → ∃ v, RepV I x v ∧ ∀ w J L', I.k.le J → SL J L' E w → (∀ y ∈ L, y ∈ L') → (execOp (ev ρ) o).run P w = .ok (.value v) w
section
variable {E : World} {P : Program} {n : Nat} {ops : Array Oper} {K : AEnv → OL → Prop} {env : AEnv} {O : OL} {rest : List Oper}
variable {d ty : Nat} {op : Op} {pos : String} {af : Array Edge}
theorem AOps.mono {l : List Oper} {K' : AEnv → OL → Prop} (h : AOps P E ops K l env O) (hk : ∀ env O, K env O → K' env O) : AOps P E ops K' l env O := fun I F ρ w h1 h2 =>
 yu (fun _ _ ⟨J, env, O, a, b, c, d⟩ => ⟨J, env, O, a, b, c, hk _ _ d⟩) _ _ _ (h I F ρ w h1 h2)
theorem AWP.region {Q : Exit → AEnv → OL → Prop} {id : Nat} {l : List Oper} (hd : dstsOk n l = true) (h : AOps P E l.toArray (Q .normal) l env O) : AWP P E n (.region id l.toArray false) Q env O := fun I F ρ w h1 h2 =>
 WP.region hd (h I F ρ w h1 h2)
theorem AOps.nil (h : K env O) : AOps P E ops K [] env O := fun I _ _ _ h1 h2 => Ops.nil ⟨I, env, O, .refl _, h1, h2, h⟩
theorem AOps.val {x : AV} (h : Gv P env O (Oper.mk (some d) op ty pos af none) x) (k : AOps P E ops K rest (aupd env d x) O) : AOps P E ops K (Oper.mk (some d) op ty pos af none :: rest) env O := fun I F ρ w h1 h2 => by
 obtain ⟨L, hL, hS⟩ := h2.2
 obtain ⟨v, hv, hr⟩ := h I L E ρ h1 hL
 exact Ops.val (hr w I.k (L ++ F) (.refl _) hS fun _ h => List.mem_append_left _ h) (k I F _ w (h1.upd d hv) h2)
theorem AOps.guardT {dd : Option Nat} {j s : Nat} {b t : Bool} (hs : (ops[j]?).bind (fun o : Oper => o.dst) = some s) (hv : env s = .bool t) (ht : t = b)
  (k : AOps P E ops K (Oper.mk dd op ty pos af none :: rest) env O) : AOps P E ops K (Oper.mk dd op ty pos af (some (j, b)) :: rest) env O := fun I F ρ w h1 h2 =>
 Ops.guardT hs (by have := h1 s; rw [hv] at this; exact this) ht (k I F ρ w h1 h2)
theorem AOps.guardF {dd : Option Nat} {j s : Nat} {b t : Bool} (hs : (ops[j]?).bind (fun o : Oper => o.dst) = some s) (hv : env s = .bool t) (ht : t = !b)
  (k : AOps P E ops K rest (aupdO env dd (.raw undef)) O) : AOps P E ops K (Oper.mk dd op ty pos af (some (j, b)) :: rest) env O := fun I F ρ w h1 h2 =>
 Ops.guardF hs (by have := h1 s; rw [hv] at this; exact this) ht (k I F _ w (h1.updO dd rfl) h2)
theorem AOps.guardFd {j s : Nat} {b t : Bool} (hs : (ops[j]?).bind (fun o : Oper => o.dst) = some s) (hv : env s = .bool t) (ht : t = !b)
  (k : AOps P E ops K rest (aupd env d (.raw undef)) O) : AOps P E ops K (Oper.mk (some d) op ty pos af (some (j, b)) :: rest) env O := AOps.guardF hs hv ht k
theorem AOps.guardU {dd : Option Nat} {j s : Nat} {b : Bool} (hs : (ops[j]?).bind (fun o : Oper => o.dst) = some s) (hv : env s = .raw undef)
  (k : AOps P E ops K rest (aupdO env dd (.raw undef)) O) : AOps P E ops K (Oper.mk dd op ty pos af (some (j, b)) :: rest) env O := fun I F ρ w h1 h2 =>
 Ops.guardU hs (by have := h1 s; rw [hv] at this; exact this) (k I F _ w (h1.updO dd rfl) h2)
theorem AOps.guardUd {j s : Nat} {b : Bool} (hs : (ops[j]?).bind (fun o : Oper => o.dst) = some s) (hv : env s = .raw undef)
  (k : AOps P E ops K rest (aupd env d (.raw undef)) O) : AOps P E ops K (Oper.mk (some d) op ty pos af (some (j, b)) :: rest) env O := AOps.guardU hs hv k
theorem AOps.case {s : Nat} {t : Bool} {l : List Oper} (hv : env s = .bool t) (h1 : t = true → AOps P E ops K l env O) (h2 : t = false → AOps P E ops K l env O) : AOps P E ops K l env O := by
 have _ := hv
 cases t
 ·exact h2 rfl
 ·exact h1 rfl
end
end Go.Proofs.YtpojdepccecpgaaGreatDoor
namespace Go.Proofs.YtpojdepccecpgaaGreatDoor
section
variable {E : World} {P : Program} {env : AEnv} {O : OL} {d ty : Nat} {pos : String} {af : Array Edge} {x y z : Operand} {t u e : TypeId}
theorem Gv.ofEv {op : Op} {v : AV} (h : ∀ (I : G) ρ, RepE I env ρ → ∃ u, RepV I v u ∧ ∀ w, (execOp (ev ρ) (Oper.mk (some d) op ty pos af none)).run P w = .ok (.value u) w) : Gv P env O (Oper.mk (some d) op ty pos af none) v :=
 fun I _ _ ρ h1 _ => let ⟨u, h2, h3⟩ := h I ρ h1; ⟨u, h2, fun w _ _ _ _ _ => h3 w⟩
theorem Gv.move {v : AV} (hx : aev env x = v) : Gv P env O (Oper.mk (some d) (.move x) ty pos af none) v := Gv.ofEv fun I ρ h => ⟨ev ρ x, hx ▸ h.ev x, fun _ => rfl⟩
theorem Gv.assign {v : AV} (hx : aev env x = v) : Gv P env O (Oper.mk (some d) (.assign x) ty pos af none) v := Gv.ofEv fun I ρ h => ⟨ev ρ x, hx ▸ h.ev x, fun _ => rfl⟩
theorem evB {I : G} {ρ : Env} {b : Bool} (h : RepE I env ρ) (hx : aev env x = .bool b) : ev ρ x = .bool b := by have := h.ev x; rw [hx] at this; exact this
theorem evI {I : G} {ρ : Env} {k : IntKind} {n : Int} (h : RepE I env ρ) (hx : aev env x = .int k n) : ev ρ x = .int k n := by have := h.ev x; rw [hx] at this; exact this
theorem evT {I : G} {ρ : Env} {s : ByteArray} (h : RepE I env ρ) (hx : aev env x = .str s) : ev ρ x = .string s := by have := h.ev x; rw [hx] at this; exact this
theorem evRaw {I : G} {ρ : Env} {v : Value} (h : RepE I env ρ) (hx : aev env x = .raw v) : ev ρ x = v := by have := h.ev x; rw [hx] at this; exact this
theorem Gv.pickT {b : Bool} {v : AV} (hc : aev env x = .bool b) (hb : b = true) (hy : aev env y = v) : Gv P env O (Oper.mk (some d) (.pick x y z) ty pos af none) v :=
 Gv.ofEv fun I ρ h => ⟨ev ρ y, hy ▸ h.ev y, fun _ => Run.pickT (evB h hc) hb rfl⟩
theorem Gv.pickF {b : Bool} {v : AV} (hc : aev env x = .bool b) (hb : b = false) (hy : aev env z = v) : Gv P env O (Oper.mk (some d) (.pick x y z) ty pos af none) v :=
 Gv.ofEv fun I ρ h => ⟨ev ρ z, hy ▸ h.ev z, fun _ => Run.pickF (evB h hc) hb rfl⟩
theorem Gv.lss {k : IntKind} {a b : Int} (hx : aev env x = .int k a) (hy : aev env y = .int k b) : Gv P env O (Oper.mk (some d) (.binOp .lss t x y u) ty pos af none) (.bool (decide (a < b))) := Gv.ofEv fun I ρ h => ⟨_, rfl, fun _ => Run.lss (evI h hx) (evI h hy)⟩
theorem Gv.leq {k : IntKind} {a b : Int} (hx : aev env x = .int k a) (hy : aev env y = .int k b) : Gv P env O (Oper.mk (some d) (.binOp .leq t x y u) ty pos af none) (.bool (decide (a ≤ b))) := Gv.ofEv fun I ρ h => ⟨_, rfl, fun _ => Run.leq (evI h hx) (evI h hy)⟩
theorem Gv.gtr {k : IntKind} {a b : Int} (hx : aev env x = .int k a) (hy : aev env y = .int k b) : Gv P env O (Oper.mk (some d) (.binOp .gtr t x y u) ty pos af none) (.bool (decide (b < a))) := Gv.ofEv fun I ρ h => ⟨_, rfl, fun _ => Run.gtr (evI h hx) (evI h hy)⟩
theorem Gv.geq {k : IntKind} {a b : Int} (hx : aev env x = .int k a) (hy : aev env y = .int k b) : Gv P env O (Oper.mk (some d) (.binOp .geq t x y u) ty pos af none) (.bool (decide (b ≤ a))) := Gv.ofEv fun I ρ h => ⟨_, rfl, fun _ => Run.geq (evI h hx) (evI h hy)⟩
theorem Gv.eqlI {k : IntKind} {a b : Int} (hx : aev env x = .int k a) (hy : aev env y = .int k b) : Gv P env O (Oper.mk (some d) (.binOp .eql t x y u) ty pos af none) (.bool (decide (a = b))) := Gv.ofEv fun I ρ h => ⟨_, rfl, fun _ => Run.eqlI (evI h hx) (evI h hy)⟩
theorem Gv.neqI {k : IntKind} {a b : Int} (hx : aev env x = .int k a) (hy : aev env y = .int k b) : Gv P env O (Oper.mk (some d) (.binOp .neq t x y u) ty pos af none) (.bool (!decide (a = b))) := Gv.ofEv fun I ρ h => ⟨_, rfl, fun _ => by rw [← decide_not]; exact Run.neqI (evI h hx) (evI h hy)⟩
theorem Gv.add {a b : Int} (hx : aev env x = .int .i64 a) (hy : aev env y = .int .i64 b) (hr : I64 (a + b)) : Gv P env O (Oper.mk (some d) (.binOp .add t x y u) ty pos af none) (.int .i64 (a + b)) := Gv.ofEv fun I ρ h => ⟨_, rfl, fun _ => Run.add (evI h hx) (evI h hy) hr⟩
theorem Gv.sub {a b : Int} (hx : aev env x = .int .i64 a) (hy : aev env y = .int .i64 b) (hr : I64 (a - b)) : Gv P env O (Oper.mk (some d) (.binOp .sub t x y u) ty pos af none) (.int .i64 (a - b)) := Gv.ofEv fun I ρ h => ⟨_, rfl, fun _ => Run.sub (evI h hx) (evI h hy) hr⟩
theorem Gv.mul {a b : Int} (hx : aev env x = .int .i64 a) (hy : aev env y = .int .i64 b) (hr : I64 (a * b)) : Gv P env O (Oper.mk (some d) (.binOp .mul t x y u) ty pos af none) (.int .i64 (a * b)) := Gv.ofEv fun I ρ h => ⟨_, rfl, fun _ => Run.mul (evI h hx) (evI h hy) hr⟩
theorem Gv.addW {k : IntKind} {a b : Int} (hx : aev env x = .int k a) (hy : aev env y = .int k b) : Gv P env O (Oper.mk (some d) (.binOp .add t x y u) ty pos af none) (.int k (k.wrap (a + b))) := Gv.ofEv fun I ρ h => ⟨_, rfl, fun _ => Run.addW (evI h hx) (evI h hy)⟩
theorem Gv.mulW {k : IntKind} {a b : Int} (hx : aev env x = .int k a) (hy : aev env y = .int k b) : Gv P env O (Oper.mk (some d) (.binOp .mul t x y u) ty pos af none) (.int k (k.wrap (a * b))) := Gv.ofEv fun I ρ h => ⟨_, rfl, fun _ => Run.mulW (evI h hx) (evI h hy)⟩
theorem Gv.not {b : Bool} (hx : aev env x = .bool b) : Gv P env O (Oper.mk (some d) (.unOp .not t x) ty pos af none) (.bool (!b)) := Gv.ofEv fun I ρ h => ⟨_, rfl, fun _ => Run.not (evB h hx)⟩
theorem Gv.eqlT {a b : ByteArray} (hx : aev env x = .str a) (hy : aev env y = .str b) : Gv P env O (Oper.mk (some d) (.binOp .eql t x y u) ty pos af none) (.bool (decide (a = b))) := Gv.ofEv fun I ρ h => ⟨_, rfl, fun _ => Run.eqlT (evT h hx) (evT h hy)⟩
theorem Gv.neqT {a b : ByteArray} (hx : aev env x = .str a) (hy : aev env y = .str b) : Gv P env O (Oper.mk (some d) (.binOp .neq t x y u) ty pos af none) (.bool (!decide (a = b))) := Gv.ofEv fun I ρ h => ⟨_, rfl, fun _ => Run.neqT (evT h hx) (evT h hy)⟩
theorem Gv.eqlB {a b : Bool} (ht : P.underlying t = some .bool) (hx : aev env x = .bool a) (hy : aev env y = .bool b) : Gv P env O (Oper.mk (some d) (.binOp .eql t x y u) ty pos af none) (.bool (a == b)) := Gv.ofEv fun I ρ h => ⟨_, rfl, fun _ => Run.eqlB ht (evB h hx) (evB h hy)⟩
theorem Gv.neqB {a b : Bool} (ht : P.underlying t = some .bool) (hx : aev env x = .bool a) (hy : aev env y = .bool b) : Gv P env O (Oper.mk (some d) (.binOp .neq t x y u) ty pos af none) (.bool (!(a == b))) := Gv.ofEv fun I ρ h => ⟨_, rfl, fun _ => Run.neqB ht (evB h hx) (evB h hy)⟩
theorem Gv.addT {a b : ByteArray} (hx : aev env x = .str a) (hy : aev env y = .str b) (hl : a.size + b.size ≤ 140737488355328) : Gv P env O (Oper.mk (some d) (.binOp .add t x y u) ty pos af none) (.str (a ++ b)) := Gv.ofEv fun I ρ h => ⟨_, rfl, fun _ => by
 have : ¬ (((a.size + b.size : Nat) : Int) > IntKind.i64.max) := by
  have : IntKind.i64.max = 9223372036854775807 := by rfl
  rw [this]; omega
 have he : ∀ w, (eqGuard .add t x y (.string a) (.string b)).run P w = .ok () w := fun w => rfl
 simp only [execOp, evT h hx, evT h hy]
 simp only [Sem.run_bind, he, Result.andThen]
 simp [binOp, Op.stringOp]
 have h2 : ¬ ((a.size : Int) + b.size > IntKind.i64.max) := by simpa using this
 simp at h2
 rw [if_neg (by omega)]⟩
theorem Gv.extract {vs : List AV} {i : Nat} {v : AV} (hx : aev env x = .tup vs) (hv : vs[i]? = some v) : Gv P env O (Oper.mk (some d) (.extract x i) ty pos af none) v := Gv.ofEv fun I ρ h => by
 have := h.ev x
 rw [hx] at this
 obtain ⟨us, e, hr⟩ := this
 obtain ⟨u, hu, hru⟩ := hr.get hv
 exact ⟨u, hru, fun _ => Run.extract e (by simpa using hu)⟩
theorem Gv.nilCheckF {cs : List AV} (hx : aev env x = .pf cs) : Gv P env O (Oper.mk (some d) (.nilCheck x) ty pos af none) (.pf cs) := Gv.ofEv fun I ρ h => by
 have h2 := h.ev x
 rw [hx] at h2
 obtain ⟨b, off, vs, e, h3⟩ := id h2
 rw [e] at h2
 exact ⟨_, h2, fun _ => Run.nilCheck e⟩
theorem Gv.nilCheckO {i off : Nat} (hx : aev env x = .po i off) : Gv P env O (Oper.mk (some d) (.nilCheck x) ty pos af none) (.po i off) := Gv.ofEv fun I ρ h => by
 have h2 := h.ev x
 rw [hx] at h2
 obtain ⟨b, c, e1, e⟩ := id h2
 rw [e] at h2
 exact ⟨_, h2, fun _ => Run.nilCheck e⟩
theorem Gv.lenF {k : Nat} {rows : List (List AV)} (ht : P.underlying t = some (.slice e)) (hx : aev env x = .fro k rows) : Gv P env O (Oper.mk (some d) (.call { callee := .builtin .len, args := #[x], argTypes := #[t] }) ty pos af none) (.int .i64 rows.length) := Gv.ofEv fun I ρ h => by
 have h2 := h.ev x
 rw [hx] at h2
 obtain ⟨a, n, c, e, rfl, _⟩ := h2
 exact ⟨_, rfl, fun _ => Run.lenS ht e⟩
theorem Gv.lenM {α : Type} {enc : α → List AV} {xs : List α} {k : Nat} (ht : P.underlying t = some (.slice e)) (hx : aev env x = .fro k (xs.map enc)) : Gv P env O (Oper.mk (some d) (.call { callee := .builtin .len, args := #[x], argTypes := #[t] }) ty pos af none) (.int .i64 xs.length) := by
 have := Gv.lenF (d := d) (ty := ty) (pos := pos) (af := af) (O := O) ht hx
 rwa [List.length_map] at this
theorem Gv.lenO {i n : Nat} (ht : P.underlying t = some (.slice e)) (hx : aev env x = .own i n) : Gv P env O (Oper.mk (some d) (.call { callee := .builtin .len, args := #[x], argTypes := #[t] }) ty pos af none) (.int .i64 n) := Gv.ofEv fun I ρ h => by
 have h2 := h.ev x
 rw [hx] at h2
 obtain ⟨b, c, _, e⟩ := h2
 exact ⟨_, rfl, fun _ => Run.lenS ht e⟩
theorem Gv.lenT {s : ByteArray} (ht : P.underlying t = some .string) (hx : aev env x = .str s) : Gv P env O (Oper.mk (some d) (.call { callee := .builtin .len, args := #[x], argTypes := #[t] }) ty pos af none) (.int .i64 s.size) := Gv.ofEv fun I ρ h => ⟨_, rfl, fun _ => Run.lenT ht (evT h hx)⟩
theorem Gv.load1F {c : AV} {cs : List AV} (ha : ∀ w, (isAgg t).run P w = .ok false w) (hx : aev env x = .pf (c :: cs)) : Gv P env O (Oper.mk (some d) (.load t x) ty pos af none) c := fun I L E ρ h1 _ => by
 have h2 := h1.ev x
 rw [hx] at h2
 obtain ⟨b, off, vs, e, ⟨v, us, e2, h3, h4⟩, h5⟩ := h2
 subst e2
 exact ⟨v, h3, fun w J L' hl hS _ => Run.load1 ha hS e ((h5 0 v rfl).mono hl |>.at_ _)⟩
theorem Gv.loadAF {n : Nat} {cs l : List AV} (ha : ∀ w, (isAgg t).run P w = .ok true w) (hs : ∀ w, (sizeOf t).run P w = .ok n w) (hx : aev env x = .pf cs) (hn : Nat.ble n cs.length = true) (hl : cs.take n = l) : Gv P env O (Oper.mk (some d) (.load t x) ty pos af none) (.agg l) := fun I L E ρ h1 _ => by
 have h2 := h1.ev x
 rw [hx] at h2
 obtain ⟨b, off, vs, e, h3, h5⟩ := h2
 refine ⟨.agg (vs.take n).toArray, ⟨_, rfl, hl ▸ h3.take n⟩, fun w J L' hk hS _ => Run.loadA ha ?_ hS e ?_⟩
 ·have hn := Nat.le_of_ble_eq_true hn
  have := h3.length
  rw [List.length_take, Nat.min_eq_left (by omega)]; exact hs
 ·intro j v hj
  rw [List.getElem?_take] at hj
  split at hj
  ·exact ((h5 j v hj).mono hk).at_ _
  ·cases hj
theorem Gv.loadWF {n : Nat} {cs : List AV} (ha : ∀ w, (isAgg t).run P w = .ok true w) (hs : ∀ w, (sizeOf t).run P w = .ok n w) (hx : aev env x = .pf cs) (hn : cs.length = n) : Gv P env O (Oper.mk (some d) (.load t x) ty pos af none) (.agg cs) :=
 Gv.loadAF ha hs hx (by rw [hn]; simp) (by rw [← hn]; simp)
theorem Gv.fieldF {fs : Array Field} {f : Field} {i sz : Nat} {cs cs' : List AV} (ht : P.underlying t = some (.struct fs)) (hf : fs[i]? = some f) (hs : ∀ w, (sizeOf f.type).run P w = .ok sz w) (hz : sz ≠ 0)
  (hx : aev env x = .pf cs) (hr : cs.drop f.offset = cs') : Gv P env O (Oper.mk (some d) (.fieldAddr t x i) ty pos af none) (.pf cs') := fun I L E ρ h1 _ => by
 have h2 := h1.ev x
 rw [hx] at h2
 obtain ⟨b, off, vs, e, h3, h5⟩ := h2
 refine ⟨.pointer (some ⟨b, off + f.offset, none⟩), ⟨b, _, vs.drop f.offset, rfl, hr ▸ h3.drop _, fun j u hj => ?_⟩, fun w J L' _ _ _ => Run.field ht hf hs hz e rfl⟩
 rw [List.getElem?_drop] at hj
 have := h5 _ _ hj
 rwa [← Nat.add_assoc] at this
theorem Gv.fieldO {fs : Array Field} {f : Field} {i id off r sz : Nat} (ht : P.underlying t = some (.struct fs)) (hf : fs[i]? = some f) (hs : ∀ w, (sizeOf f.type).run P w = .ok sz w) (hz : sz ≠ 0)
  (hx : aev env x = .po id off) (hr : off + f.offset = r) : Gv P env O (Oper.mk (some d) (.fieldAddr t x i) ty pos af none) (.po id r) := fun I L E ρ h1 _ => by
 have h2 := h1.ev x
 rw [hx] at h2
 obtain ⟨b, c, e1, e⟩ := h2
 exact ⟨_, ⟨b, c, e1, rfl⟩, fun w J L' _ _ _ => Run.field ht hf hs hz e hr⟩
theorem Gv.idxF {k j : Nat} {i : Int} {rows : List (List AV)} {r : List AV} (ht : P.underlying t = some (.slice e)) (hs : ∀ w, (sizeOf e).run P w = .ok k w) (hx : aev env x = .fro k rows) (hy : aev env y = .int .i64 i) (hi : i = (j : Int)) (hj : rows[j]? = some r) :
  Gv P env O (Oper.mk (some d) (.indexAddr t x y) ty pos af none) (.pf r) := fun I L E ρ h1 _ => by
 have h2 := h1.ev x
 rw [hx] at h2
 obtain ⟨a, n, c, ex, hn, _, _, h3⟩ := h2
 obtain ⟨b, off, vs, rfl, h4, h5, h6⟩ := h3.get hj
 have hlt : j < n := by rw [hn]; exact (List.getElem?_eq_some_iff.1 hj).1
 refine ⟨.pointer (some ⟨b, off + j * k, none⟩), ⟨b, _, vs, rfl, h5, fun i u hu => ?_⟩, fun w J L' _ _ _ => Run.idx ht hs ex (evI h1 hy) hi hlt⟩
 have := h6 i u hu
 rwa [Nat.zero_add] at this
theorem Gv.idxM {α : Type} {enc : α → List AV} {xs : List α} {k j : Nat} {i : Int} {v : α} (ht : P.underlying t = some (.slice e)) (hs : ∀ w, (sizeOf e).run P w = .ok k w) (hx : aev env x = .fro k (xs.map enc)) (hy : aev env y = .int .i64 i) (hi : i = (j : Int)) (hj : xs[j]? = some v) :
  Gv P env O (Oper.mk (some d) (.indexAddr t x y) ty pos af none) (.pf (enc v)) := Gv.idxF ht hs hx hy hi (by rw [List.getElem?_map, hj]; rfl)
end
def Has (O : OL) (i : Nat) (o : AObj) : Prop := ∃ O', Pick O i o O'
theorem Has.head {O : OL} {i : Nat} {o : AObj} : Has ((i, o) :: O) i o := ⟨_, .head⟩
theorem Has.tail {O : OL} {x : Nat × AObj} {i : Nat} {o : AObj} (h : Has O i o) : Has (x :: O) i o := let ⟨O', h⟩ := h; ⟨_, .tail h⟩
theorem Pick.has {O O' : OL} {i : Nat} {o : AObj} (h : Pick O i o O') : Has O i o := ⟨_, h⟩
theorem Has.cells {I : G} {O : OL} {L : List (Nat × Obj)} {i : Nat} {T : TypeId} {cs : List AV} (h : Has O i (.cells T cs)) (hL : RepOs I O L) : ∃ b c vs, I.h i = some (some b, c) ∧ RepL I cs vs ∧ (b, Obj.cells vs.toArray T (0, 0)) ∈ L := by
 obtain ⟨O', h⟩ := h
 obtain ⟨A, B, hp, h1, _⟩ := h.rep hL
 obtain ⟨b, c, vs, h2, h3, _, rfl⟩ := h1
 exact ⟨b, c, vs, h2, h3, hp.mem_iff.2 (by simp)⟩
theorem Has.grow {I : G} {O : OL} {L : List (Nat × Obj)} {i k : Nat} {T : TypeId} {cs : List AV} (h : Has O i (.grow k T cs)) (hL : RepOs I O L) (hne : cs ≠ []) : ∃ b c vs junk, I.h i = some (some b, c) ∧ RepL I cs vs ∧ (b, Obj.cells (vs ++ junk).toArray T (0, 0)) ∈ L := by
 obtain ⟨O', h⟩ := h
 obtain ⟨A, B, hp, h1, _⟩ := h.rep hL
 obtain ⟨b, c, n, vs, h2, h3, _, h4, h5, h6⟩ := h1
 rcases h6 with ⟨_, h6, _⟩ | ⟨b', junk, e, e2, h6⟩
 ·have := h3.length
  have : n = 0 := by omega
  subst this
  simp at h4
  subst h4
  simp at this
  exact absurd this.symm (by simpa using hne)
 ·cases b with
  | none => simp [adr] at e
  | some b =>
   simp [adr] at e
   subst e e2
   exact ⟨b, c, vs, junk, h2, h3, hp.mem_iff.2 (by simp)⟩
section
variable {E : World} {P : Program} {env : AEnv} {O : OL} {d ty : Nat} {pos : String} {af : Array Edge} {x y z : Operand} {t u e : TypeId}
theorem Gv.load1C {i off : Nat} {T : TypeId} {c : AV} {cs tl : List AV} (ha : ∀ w, (isAgg t).run P w = .ok false w) (hx : aev env x = .po i off) (hO : Has O i (.cells T cs)) (hv : cs.drop off = c :: tl) : Gv P env O (Oper.mk (some d) (.load t x) ty pos af none) c := fun I L E ρ h1 hL => by
 have h2 := h1.ev x
 rw [hx] at h2
 obtain ⟨b, k, e1, e⟩ := h2
 obtain ⟨b', k', vs, e2, h3, hm⟩ := hO.cells hL
 rw [e1] at e2; cases e2
 have h4 := h3.drop off
 rw [hv] at h4
 obtain ⟨v, us, e5, h6, h7⟩ := h4
 exact ⟨v, h6, fun w J L' hl hS hsub => Run.load1 ha hS e (.inr ⟨_, _, _, hsub _ hm, by rw [List.getElem?_toArray]; exact drop_get e5⟩)⟩
theorem Gv.loadAC {i off n : Nat} {T : TypeId} {cs l : List AV} (ha : ∀ w, (isAgg t).run P w = .ok true w) (hs : ∀ w, (sizeOf t).run P w = .ok n w) (hx : aev env x = .po i off) (hO : Has O i (.cells T cs)) (hn : Nat.ble (off + n) cs.length = true) (hl : (cs.drop off).take n = l) :
  Gv P env O (Oper.mk (some d) (.load t x) ty pos af none) (.agg l) := fun I L E ρ h1 hL => by
 have h2 := h1.ev x
 rw [hx] at h2
 obtain ⟨b, k, e1, e⟩ := h2
 obtain ⟨b', k', vs, e2, h3, hm⟩ := hO.cells hL
 rw [e1] at e2; cases e2
 refine ⟨.agg ((vs.drop off).take n).toArray, ⟨_, rfl, hl ▸ (h3.drop off).take n⟩, fun w J L' hk hS hsub => Run.loadA ha ?_ hS e ?_⟩
 ·have hn := Nat.le_of_ble_eq_true hn
  have := h3.length
  rw [List.length_take, List.length_drop, Nat.min_eq_left (by omega)]; exact hs
 ·intro j v hj
  rw [List.getElem?_take] at hj
  split at hj
  ·rw [List.getElem?_drop] at hj
   exact .inr ⟨_, _, _, hsub _ hm, by rw [List.getElem?_toArray]; exact hj⟩
  ·cases hj
theorem Gv.loadWC {i n : Nat} {T : TypeId} {cs : List AV} (ha : ∀ w, (isAgg t).run P w = .ok true w) (hs : ∀ w, (sizeOf t).run P w = .ok n w) (hx : aev env x = .po i 0) (hO : Has O i (.cells T cs)) (hn : cs.length = n) : Gv P env O (Oper.mk (some d) (.load t x) ty pos af none) (.agg cs) :=
 Gv.loadAC ha hs hx hO (by rw [hn]; simp) (by rw [← hn]; simp)
theorem Gv.load1G {i off k : Nat} {T : TypeId} {c : AV} {cs tl : List AV} (ha : ∀ w, (isAgg t).run P w = .ok false w) (hx : aev env x = .po i off) (hO : Has O i (.grow k T cs)) (hv : cs.drop off = c :: tl) : Gv P env O (Oper.mk (some d) (.load t x) ty pos af none) c := fun I L E ρ h1 hL => by
 have h2 := h1.ev x
 rw [hx] at h2
 obtain ⟨b, k, e1, e⟩ := h2
 obtain ⟨b', k', vs, junk, e2, h3, hm⟩ := hO.grow hL (by intro h; subst h; simp at hv)
 rw [e1] at e2; cases e2
 have h4 := h3.drop off
 rw [hv] at h4
 obtain ⟨v, us, e5, h6, h7⟩ := h4
 exact ⟨v, h6, fun w J L' hl hS hsub => Run.load1 ha hS e (.inr ⟨_, _, _, hsub _ hm, by
  have := drop_get e5
  rw [List.getElem?_toArray, List.getElem?_append_left (List.getElem?_eq_some_iff.1 this).1]; exact this⟩)⟩
theorem Gv.loadAG {i off n k : Nat} {T : TypeId} {cs l : List AV} (ha : ∀ w, (isAgg t).run P w = .ok true w) (hs : ∀ w, (sizeOf t).run P w = .ok n w) (hx : aev env x = .po i off) (hO : Has O i (.grow k T cs)) (hne : cs ≠ []) (hn : off + n ≤ cs.length) (hl : (cs.drop off).take n = l) :
  Gv P env O (Oper.mk (some d) (.load t x) ty pos af none) (.agg l) := fun I L E ρ h1 hL => by
 have h2 := h1.ev x
 rw [hx] at h2
 obtain ⟨b, k, e1, e⟩ := h2
 obtain ⟨b', k', vs, junk, e2, h3, hm⟩ := hO.grow hL hne
 rw [e1] at e2; cases e2
 refine ⟨.agg ((vs.drop off).take n).toArray, ⟨_, rfl, hl ▸ (h3.drop off).take n⟩, fun w J L' hk hS hsub => Run.loadA ha ?_ hS e ?_⟩
 ·have := h3.length
  rw [List.length_take, List.length_drop, Nat.min_eq_left (by omega)]; exact hs
 ·intro j v hj
  rw [List.getElem?_take] at hj
  split at hj
  ·rw [List.getElem?_drop] at hj
   exact .inr ⟨_, _, _, hsub _ hm, by rw [List.getElem?_toArray, List.getElem?_append_left (List.getElem?_eq_some_iff.1 hj).1]; exact hj⟩
  ·cases hj
theorem Gv.idxO {i n k j : Nat} {a : Int} {T : TypeId} {cs : List AV} (ht : P.underlying t = some (.slice e)) (hs : ∀ w, (sizeOf e).run P w = .ok k w) (hx : aev env x = .own i n) (hy : aev env y = .int .i64 a) (hi : a = (j : Int)) (hO : Has O i (.grow k T cs)) (hne : cs ≠ []) (hj : j < n) :
  Gv P env O (Oper.mk (some d) (.indexAddr t x y) ty pos af none) (.po i (j * k)) := fun I L E ρ h1 hL => by
 have h2 := h1.ev x
 rw [hx] at h2
 obtain ⟨b, c, e1, e⟩ := h2
 obtain ⟨b', k', vs, junk, e2, _⟩ := hO.grow hL hne
 rw [e1] at e2; cases e2
 refine ⟨.pointer (some ⟨b', 0 + j * k, none⟩), ⟨b', _, e1, by rw [Nat.zero_add]⟩, fun w J L' _ _ _ => Run.idx ht hs e (evI h1 hy) hi hj⟩
end
end Go.Proofs.YtpojdepccecpgaaGreatDoor
namespace Go.Proofs.YtpojdepccecpgaaGreatDoor
def lit : Value → AV
 | .bool b => .bool b
 | .int k n => .int k n
 | .string s => .str s
 | v => .raw v
theorem lit_rep (I : G) (v : Value) : RepV I (lit v) v := by cases v <;> exact rfl
theorem lit_reps (I : G) : ∀ l : List Value, RepL I (l.map lit) l
 | [] => rfl
 | v :: l => ⟨v, l, rfl, lit_rep I v, lit_reps I l⟩
def AV.cs : AV → List AV
 | .agg cs => cs
 | x => [x]
def AV.sto : AV → Bool
 | .any | .tup _ => false
 | .raw v => v.oneCell'
 | _ => true
theorem AV.cs_rep {I : G} {x : AV} {v : Value} (h : RepV I x v) (hs : x.sto = true) : RepL I x.cs v.cells.toList := by
 cases x
 case agg cs => obtain ⟨vs, e, h2⟩ := h; subst e; simpa [AV.cs, Value.cells] using h2
 case any => cases hs
 case tup => cases hs
 all_goals
  have hc : v.cells = #[v] := by
   have := AV.cell_rep h (by first | rfl | exact hs)
   cases v <;> first | rfl | (simp [Value.oneCell'] at this)
  rw [hc]
  exact RepL.one h
theorem SLA.name {I : G} {O : OL} {F : List (Nat × Obj)} {E w : World} (h : SLA I O F E w) : ∃ i, ∀ hd : Option Nat × Nat, ∃ J : G, J.k = I.k ∧ I.le J ∧ J.h i = some hd ∧ ∃ top, ∀ i, top ≤ i → J.h i = none := by
 obtain ⟨⟨top, ht⟩, _⟩ := h
 refine ⟨top, fun hd => ⟨⟨I.k, fun j => if j = top then some hd else I.h j⟩, rfl, ⟨.refl _, fun i x hi => ?_⟩, by simp, top + 1, fun i hi => ?_⟩⟩
 ·have : i ≠ top := fun e => by rw [e, ht top (Nat.le_refl _)] at hi; cases hi
  simp [this, hi]
 ·simp only
  rw [if_neg (by omega)]; exact ht i (by omega)
theorem RepOs.perm {I : G} {O O' : OL} (h : O.Perm O') : ∀ {L}, RepOs I O L → ∃ L', RepOs I O' L' ∧ L.Perm L' := by
 induction h with
 | nil => intro L h; exact ⟨L, h, .refl _⟩
 | cons x _ ih => rintro L ⟨A, B, e, h1, h2⟩; obtain ⟨B', h3, h4⟩ := ih h2; exact ⟨A ++ B', ⟨A, B', rfl, h1, h3⟩, e ▸ h4.append_left A⟩
 | swap x y l =>
  rintro L ⟨A, B, e, h1, C, D, e2, h2, h3⟩
  refine ⟨C ++ (A ++ D), ⟨C, A ++ D, rfl, h2, A, D, rfl, h1, h3⟩, ?_⟩
  subst e e2
  rw [← List.append_assoc, ← List.append_assoc]
  exact List.perm_append_comm.append_right D
 | trans _ _ ih1 ih2 => intro L h; obtain ⟨L1, h1, h2⟩ := ih1 h; obtain ⟨L2, h3, h4⟩ := ih2 h1; exact ⟨L2, h3, h2.trans h4⟩
def ACall (P : Program) (E : World) (f : FuncId) (args : List AV) (O : OL) (R : AV → OL → Prop) : Prop :=
 ∀ I F w vs, RepL I args vs → SLA I O F E w → Fn P f vs.toArray w fun v w' => ∃ J x O', I.le J ∧ RepV J x v ∧ SLA J O' F E w' ∧ R x O'
def AFun (P : Program) (E : World) (f : FuncId) (args : List AV) (r : AV) : Prop := ACall P E f args [] fun x _ => x = r
theorem ACall.mono {E : World} {P : Program} {f : FuncId} {args : List AV} {O : OL} {R R' : AV → OL → Prop} (h : ACall P E f args O R) (hr : ∀ x O, R x O → R' x O) : ACall P E f args O R' := fun I F w vs h1 h2 =>
 (h I F w vs h1 h2).mono fun _ _ ⟨J, x, O', a, b, c, d⟩ => ⟨J, x, O', a, b, c, hr _ _ d⟩
def ares (E : World) (rs : Array ResultVar) (env : AEnv) (O : OL) (P : Program) (x : AV) : Prop :=
 ∀ I F ρ w, RepE I env ρ → SLA I O F E w → ∃ v, resE rs ρ P w = .ok v w ∧ RepV I x v
def afin (P : Program) (E : World) (rs : Array ResultVar) (R : AV → OL → Prop) : Exit → AEnv → OL → Prop := fun e env O =>
 match e with
 | .normal | .ret => ∀ I F ρ w, RepE I env ρ → SLA I O F E w → ∃ v, resE rs ρ P w = .ok v w ∧ ∃ J x O', I.le J ∧ RepV J x v ∧ SLA J O' F E w ∧ R x O'
 | _ => False
def aenv0 (args : List AV) : AEnv := fun t => (args[t]?).getD (.raw undef)
theorem aenv0_rep {I : G} {args : List AV} {vs : List Value} (h : RepL I args vs) : RepE I (aenv0 args) (env0 vs.toArray) := fun t => by
 unfold aenv0 env0
 cases ha : args[t]? with
 | none =>
  have : vs[t]? = none := by
   rw [List.getElem?_eq_none_iff] at ha ⊢
   rw [h.length]; exact ha
  simp [Array.getD_eq_getD_getElem?, this, RepV]
 | some x =>
  obtain ⟨v, hv, hr⟩ := h.get ha
  simp [Array.getD_eq_getD_getElem?, hv, hr]
theorem ACall.intro {E : World} {P : Program} {f : FuncId} {fn : Func} {c : Code} {args : List AV} {O : OL} {R : AV → OL → Prop} (hf : P.funcs[f]? = some fn) (hb : fn.body = some c)
  (hn : fn.name ≠ "runtime.NumGoroutine") (hs : Nat.ble args.length fn.ntmps = true) (h : AWP P E fn.ntmps c (afin P E fn.results R) (aenv0 args) O) : ACall P E f args O R := fun I F w vs h1 h2 =>
 Fn.intro hf hb hn (by rw [List.size_toArray, h1.length]; exact hs) ((h I F _ w (aenv0_rep h1) h2).mono fun e ρ w ⟨J, env, O, a, b, c, d⟩ => by
  cases e <;> first | exact d.elim | (obtain ⟨v, h3, K, x, O', h4, h5, h6, h7⟩ := d J F ρ w b c; exact ⟨v, h3, K, x, O', a.trans h4, h5, h6, h7⟩))
section
variable {E : World} {P : Program} {env : AEnv} {O : OL} {R : AV → OL → Prop}
theorem afin.of {rs : Array ResultVar} {x : AV} (h : ares E rs env O P x) (hr : R x O) : afin P E rs R .ret env O := fun I F ρ w h1 h2 => by
 obtain ⟨v, h3, h4⟩ := h I F ρ w h1 h2
 exact ⟨v, h3, I, x, O, .refl _, h4, h2, hr⟩
theorem afin.t1 {t : Nat} {x : AV} (hv : env t = x) (h : R x O) : afin P E #[.tmp t] R .ret env O := afin.of (fun I F ρ w h1 _ => ⟨_, by simp [resE], hv ▸ h1 t⟩) h
theorem afin.t0 (h : R (.tup []) O) : afin P E #[] R .ret env O := afin.of (x := .tup []) (fun I F ρ w h1 _ => ⟨.tuple #[], by simp [resE], ⟨[], rfl, rfl⟩⟩) h
theorem afin.t2 {t u : Nat} {x y : AV} (hv : env t = x) (hu : env u = y) (h : R (.tup [x, y]) O) : afin P E #[.tmp t, .tmp u] R .ret env O :=
 afin.of (x := .tup [x, y]) (fun I F ρ w h1 _ => ⟨.tuple #[ρ t, ρ u], by simp [resE], ⟨[ρ t, ρ u], rfl, ⟨_, _, rfl, hv ▸ h1 t, ⟨_, _, rfl, hu ▸ h1 u, rfl⟩⟩⟩⟩) h
theorem afin.t3 {t u s : Nat} {x y z : AV} (hv : env t = x) (hu : env u = y) (hs : env s = z) (h : R (.tup [x, y, z]) O) : afin P E #[.tmp t, .tmp u, .tmp s] R .ret env O :=
 afin.of (x := .tup [x, y, z]) (fun I F ρ w h1 _ => ⟨.tuple #[ρ t, ρ u, ρ s], by simp [resE], ⟨[ρ t, ρ u, ρ s], rfl, ⟨_, _, rfl, hv ▸ h1 t, ⟨_, _, rfl, hu ▸ h1 u, ⟨_, _, rfl, hs ▸ h1 s, rfl⟩⟩⟩⟩⟩) h
theorem afin.c1 {t T i : Nat} {T' : TypeId} {cs : List AV} {n : Nat} (hv : env t = .po i 0) (hO : Has O i (.cells T' cs)) (ha : ∀ w, (isAgg T).run P w = .ok true w) (hs : ∀ w, (sizeOf T).run P w = .ok n w) (hn : cs.length = n) (h : R (.agg cs) O) :
  afin P E #[.cell t T] R .ret env O := afin.of (fun I F ρ w h1 h2 => by
 obtain ⟨L, hL, hS⟩ := h2.2
 have h3 := h1 t
 rw [hv] at h3
 obtain ⟨b, c, e1, e⟩ := h3
 obtain ⟨b', c', vs, e2, h4, hm⟩ := hO.cells hL
 rw [e1] at e2; cases e2
 have hl := run_loadVar_agg (P := P) (w := w) (b := b) (off := 0) ha (cs := vs) (by rw [h4.length, hn]; exact hs) (fun j v hj => by
  rw [Nat.zero_add]
  exact hS.at_ (.inr ⟨_, _, _, List.mem_append_left _ hm, by rw [List.getElem?_toArray]; exact hj⟩))
 exact ⟨.agg vs.toArray, by simp [resE, e, asAddr, hl], ⟨vs, rfl, h4⟩⟩) h
theorem afin.c11 {t T i : Nat} {T' : TypeId} {c : AV} {cs : List AV} (hv : env t = .po i 0) (hO : Has O i (.cells T' (c :: cs))) (ha : ∀ w, (isAgg T).run P w = .ok false w) (h : R c O) :
  afin P E #[.cell t T] R .ret env O := afin.of (fun I F ρ w h1 h2 => by
 obtain ⟨L, hL, hS⟩ := h2.2
 have h3 := h1 t
 rw [hv] at h3
 obtain ⟨b, _, e1, e⟩ := h3
 obtain ⟨b', _, vs, e2, ⟨v, us, e3, h4, _⟩, hm⟩ := hO.cells hL
 subst e3
 rw [e1] at e2; cases e2
 have hl := run_loadVar_one (P := P) (w := w) (b := b) (off := 0) (v := v) ha (hS.at_ (.inr ⟨_, _, _, List.mem_append_left _ hm, by simp⟩))
 exact ⟨v, by simp [resE, e, asAddr, hl], h4⟩) h
theorem afin.imp {rs : Array ResultVar} {R' : AV → OL → Prop} (h : afin P E rs R' .ret env O) (hr : ∀ I F w v x O', R' x O' → RepV I x v → SLA I O' F E w → ∃ J y O'', I.le J ∧ RepV J y v ∧ SLA J O'' F E w ∧ R y O'') : afin P E rs R .ret env O := fun I F ρ w h1 h2 => by
 obtain ⟨v, h3, J, x, O', h4, h5, h6, h7⟩ := h I F ρ w h1 h2
 obtain ⟨K, y, O'', h8, h9, h10, h11⟩ := hr J F w v x O' h7 h5 h6
 exact ⟨v, h3, K, y, O'', h4.trans h8, h9, h10, h11⟩
end
section
variable {E : World} {P : Program} {ops : Array Oper} {K : AEnv → OL → Prop} {env : AEnv} {O O' : OL} {rest : List Oper}
variable {d ty : Nat} {pos : String} {af : Array Edge} {x y z : Operand} {t u e : TypeId}
theorem AOps.boxF {v : AV} {cs : List AV} (hx : aev env x = v) (hv : v.sto = true) (hc : v.cs = cs) (k : AOps P E ops K rest (aupd env d (.pf cs)) O) : AOps P E ops K (Oper.mk (some d) (.box t x) ty pos af none :: rest) env O := fun I F ρ w h1 h2 => by
 obtain ⟨ht, L, hL, hS⟩ := h2
 refine Ops.boxP hS rfl fun b w' J hl hb hS' => ?_
 have h3 := h1.ev x
 rw [hx] at h3
 have h4 := AV.cs_rep h3 hv
 rw [hc] at h4
 let I' : G := ⟨J, I.h⟩
 have hle : I.le I' := ⟨hl, fun _ _ h => h⟩
 refine yu (fun _ _ => postK.up hle) _ _ _ (k I' F _ w' ((h1.mono hle).upd d ⟨b, 0, _, rfl, RepL.mono hle _ _ h4, fun j u hj => ⟨_, _, _, hb, ?_⟩⟩) ⟨ht, L, hL.mono hle, hS'⟩)
 rw [Nat.zero_add]; simpa using hj
theorem allocd {I : G} {F : List (Nat × Obj)} {E w w' : World} {L : List (Nat × Obj)} {b : Nat} {T : TypeId} {cs : List AV} {vs : List Value} (h2 : SLA I O F E w) (hL : RepOs I O L) (hr : RepL I cs vs) (h1c : ∀ u ∈ vs, u.oneCell' = true)
  (hS : SL I.k ((b, .cells vs.toArray T (0, 0)) :: (L ++ F)) E w') : ∃ i J, I.le J ∧ J.h i = some (some b, 0) ∧ SLA J ((i, .cells T cs) :: O) F E w' := by
 obtain ⟨i, hi⟩ := h2.name
 obtain ⟨J, e1, hle, e2, htop⟩ := hi (some b, 0)
 exact ⟨i, J, hle, e2, htop, _, ⟨_, L, rfl, ⟨b, 0, vs, e2, RepL.mono hle _ _ hr, h1c, rfl⟩, hL.mono hle⟩, by rw [e1]; exact hS⟩
theorem RepL.cell1 {I : G} {cs : List AV} {vs : List Value} (h4 : RepL I cs vs) (hc1 : cs.all AV.cell = true) : ∀ u ∈ vs, u.oneCell' = true := by
 intro u hu
 obtain ⟨j, hj⟩ := List.mem_iff_getElem?.1 hu
 have hlen := h4.length
 have hjl := (List.getElem?_eq_some_iff.1 hj).1
 have hx : cs[j]? = some cs[j] := List.getElem?_eq_getElem (by omega)
 obtain ⟨v', hv', hr'⟩ := h4.get hx
 rw [hj] at hv'; cases hv'
 exact AV.cell_rep hr' (List.all_eq_true.1 hc1 _ (List.getElem_mem _))
theorem AOps.boxO {v : AV} {cs : List AV} (hx : aev env x = v) (hv : v.sto = true) (hc : v.cs = cs) (hc1 : cs.all AV.cell = true) (k : ∀ i, AOps P E ops K rest (aupd env d (.po i 0)) ((i, .cells t cs) :: O)) :
  AOps P E ops K (Oper.mk (some d) (.box t x) ty pos af none :: rest) env O := fun I F ρ w h1 h2 => by
 obtain ⟨L, hL, hS⟩ := h2.2
 refine Ops.boxO hS rfl fun b w' hS' => ?_
 have h3 := h1.ev x
 rw [hx] at h3
 have h4 := AV.cs_rep h3 hv
 rw [hc] at h4
 obtain ⟨i, J, hle, e2, h5⟩ := allocd (O := O) (w' := w') (b := b) (T := t) h2 hL h4 (h4.cell1 hc1) (by simpa using hS')
 exact yu (fun _ _ => postK.up hle) _ _ _ (k i J F _ w' ((h1.mono hle).upd d ⟨b, 0, e2, rfl⟩) h5)
theorem AOps.alloc {zv : Value} {cs : List AV} (hz : ∀ w, (zeroValue t).run P w = .ok zv w) (hc : zv.cells.toList.map lit = cs) (h1c : zv.cells.toList.all Value.oneCell' = true) (k : ∀ i, AOps P E ops K rest (aupd env d (.po i 0)) ((i, .cells t cs) :: O)) :
  AOps P E ops K (Oper.mk (some d) (.alloc t) ty pos af none :: rest) env O := fun I F ρ w h1 h2 => by
 obtain ⟨L, hL, hS⟩ := h2.2
 refine Ops.alloc hz hS fun b w' hS' => ?_
 obtain ⟨i, J, hle, e2, h5⟩ := allocd (O := O) (w' := w') (b := b) (T := t) h2 hL (hc ▸ lit_reps I zv.cells.toList) (List.all_eq_true.1 h1c) (by simpa using hS')
 exact yu (fun _ _ => postK.up hle) _ _ _ (k i J F _ w' ((h1.mono hle).upd d ⟨b, 0, e2, rfl⟩) h5)
theorem run_storeAt {b off n : Nat} {vs : List Value} {T : TypeId} {v : Value} {old : List Value} {w : World} (hs : ∀ w, (sizeOf t).run P w = .ok n w) (hvc : v.cells = vs.toArray) (hn : vs.length = n) (h1c : ∀ u ∈ vs, u.oneCell' = true) (hb : off + n ≤ old.length)
  (hown : w.heap[b]? = some (.cells old.toArray T (0, 0))) : (Instr.storeAt t (.pointer (some ⟨b, off, none⟩)) v).run P w = .ok () (w.setRow b (old.take off ++ vs ++ old.drop (off + n)).toArray) := by
 have hst : (storeCells (⟨b, off, none⟩ : Addr) vs 0).run P w = .ok () (w.setRow b (old.take off ++ vs ++ old.drop (off + n)).toArray) := by
  rw [run_storeCells_at (P := P) b off T vs 0 old.toArray w hown (by simp; omega) h1c]
  simp [hn]
 have hvs : v.cells.size = n := by rw [hvc]; simpa using hn
 simp [Instr.storeAt, Instr.sureAddr, storeVar, hs, hvc, hn, hst]
theorem SL.turn1 {I : Ghost} {L : List (Nat × Obj)} {E w : World} {b : Nat} {old new : List Value} {T : TypeId} (h : SL I ((b, .cells old.toArray T (0, 0)) :: L) E w) : SL I ((b, .cells new.toArray T (0, 0)) :: L) E (w.setRow b new.toArray) := by
 have hown := h.own _ (.head _)
 simp only at hown
 refine h.turn rfl rfl rfl ?_ ?_
 ·simp [World.setRow, Array.getElem?_modify, hown]
 ·intro k hk
  simp only [World.setRow, Array.getElem?_modify]
  rw [if_neg (by omega)]
theorem AOps.storeC {i off n : Nat} {T : TypeId} {v : AV} {cs l new : List AV} (hs : ∀ w, (sizeOf t).run P w = .ok n w) (hx : aev env x = .po i off) (hy : aev env y = v) (hv : v.sto = true) (hl : v.cs = l) (hl1 : l.all AV.cell = true) (hn : l.length = n)
  (hO : Put O i (.cells T cs) (.cells T new) O') (hb : Nat.ble (off + n) cs.length = true) (hnew : cs.take off ++ l ++ cs.drop (off + n) = new) (k : AOps P E ops K rest env O') : AOps P E ops K (Oper.mk none (.store t x y) ty pos af none :: rest) env O := fun I F ρ w h1 h2 => by
 obtain ⟨htop, L, hL, hS⟩ := h2
 have h3 := h1.ev x
 rw [hx] at h3
 obtain ⟨b, c, e1, e⟩ := h3
 have h4 := h1.ev y
 rw [hy] at h4
 have h5 := AV.cs_rep h4 hv
 rw [hl] at h5
 obtain ⟨A, B, hp, ⟨b', c', vs, e2, h6, h6c, rfl⟩, hback⟩ := hO.rep hL
 rw [e1] at e2; cases e2
 have hS2 : SL I.k ((b, .cells vs.toArray T (0, 0)) :: (B ++ F)) E w := hS.perm ((hp.append_right F).symm)
 have hb := Nat.le_of_ble_eq_true hb
 have hrun := run_storeAt (P := P) (t := t) (b := b) (off := off) (v := ev ρ y) (vs := (ev ρ y).cells.toList) (old := vs) (w := w) hs (by simp) (by rw [h5.length, hn]) (h5.cell1 hl1) (by rw [h6.length]; exact hb) (hS2.own _ (.head _))
 refine q9 rfl ?_
 unfold OpW
 have : (execOp (ev ρ) (Oper.mk none (.store t x y) ty pos af none)).run P w = .ok .skip (w.setRow b (vs.take off ++ (ev ρ y).cells.toList ++ vs.drop (off + n)).toArray) := by
  simp only [execOp, e]
  rw [Sem.run_bind, hrun]; rfl
 rw [this]
 have hnr : RepL I new (vs.take off ++ (ev ρ y).cells.toList ++ vs.drop (off + n)) := hnew ▸ ((h6.take off).append h5).append (h6.drop (off + n))
 obtain ⟨L', h7, h8⟩ := hback (G.le.refl I) (A' := [(b, .cells (vs.take off ++ (ev ρ y).cells.toList ++ vs.drop (off + n)).toArray T (0, 0))]) ⟨b, c, _, e1, hnr, by
  intro u hu
  simp only [List.mem_append] at hu
  rcases hu with (hu | hu) | hu
  ·exact h6c u (List.mem_of_mem_take hu)
  ·exact h5.cell1 hl1 u hu
  ·exact h6c u (List.mem_of_mem_drop hu), rfl⟩
 exact k I F ρ _ h1 ⟨htop, L', h7, (hS2.turn1).perm (h8.append_right F)⟩
end
set_option linter.defProp false
def z6 := @AOps.nil
def z7 := @AOps.guardFd
def z8 := @AOps.val
def za := @AOps.guardT
def ze := @AWP.seq
def zf := @Gv.fieldO
def zi := @AWP.block
def zj := @AWP.skip
def zk := @AWP.ret
def zm := @afin.t1
def zn := @AOps.guardUd
def zo := @AOps.alloc
def zp := @Gv.load1C
def zt := @ACall.intro
def zy := @AOps.case
def y2 := @AWP.condP
def y3 := @AWP.cond
def y5 := @AWP.exit
def y7 := @AWP.loop
def y9 := @Gv.assign
def ya := @AOps.storeC
def yc := @AOps.boxF
def yd := @AWP.region
def ye := @Gv.move
def yh := @Gv.loadWC
def yi := @Gv.idxM
def yl := @AWP.condF
def ym := @Gv.nilCheckO
def yo := @Gv.loadWF
def yp := @Gv.load1F
def yq := @AWP.condT
def yt := @AWP.cutS
def yw := @Gv.extract
def yz := @postK.up
def q7 := @Gv.gtr
def q8 := @Gv.ofEv
end Go.Proofs.YtpojdepccecpgaaGreatDoor
