/- More rules: strings walked by letters, an array's place, contracts that came as plain calls. No conditions. -/
import Derived.Test.YtlfhoiakmbcnlaaDoorDraw
import Derived.Laws.StructEq
namespace Go.Proofs.YtlfhoiakmbcnlaaDoor
section
variable {P : Program} {ops : Array Oper} {K : Env → World → Prop} {ρ : Env} {w : World} {rest : List Oper}
variable {d ty : Nat} {pos : String} {af : Array Edge} {x y : Operand} {t e : TypeId} {I : Ghost} {O : Own} {E : World}

theorem Fn.ofCalls {f : FuncId} {fn : Func} {c : Code} {args : Array Value} {R : Value → World → Prop} (hf : P.funcs[f]? = some fn) (hb : fn.body = some c) (hn : fn.name ≠ "runtime.NumGoroutine")
    (h : Calls P f args w fun e w' => ∃ v, e = .returned v ∧ R v w') : Fn P f args w R := ⟨⟨fn, c, hf, hb, hn⟩, h⟩

theorem SL.below {w' : World} (h : SL I O E w) (hb : Go.RowKit.Below w.heap.size w w') : SL I O E w' :=
  ⟨hb.os.trans h.os, hb.output.trans h.output, hb.tape.trans h.tape, fun b o hI => by rw [hb.block b (lt_of_some (h.pers b o hI))]; exact h.pers b o hI,
    fun x hx => by rw [hb.block x.1 (lt_of_some (h.own x hx))]; exact h.own x hx, h.nodup, h.apart, h.base, h.flat, h.oflat⟩

theorem Ops.index {v : Value} (hrun : (Instr.index t (ev ρ x) (ev ρ y)).run P w = .ok v w) (h : Ops P ops K rest (upd ρ d v) w) : Ops P ops K (Oper.mk (some d) (.index t x y) ty pos af none :: rest) ρ w :=
  Ops.val (by simp [execOp, hrun]) h

theorem Ops.fieldV {fs : Array Field} {f : Field} {i : Nat} {cs : List Value} {v : Value} (ht : P.underlying t = some (.struct fs)) (hf : fs[i]? = some f) (ha : ∀ w, (isAgg f.type).run P w = .ok false w)
    (hx : ev ρ x = .agg cs.toArray) (hv : cs[f.offset]? = some v) (h : Ops P ops K rest (upd ρ d v) w) : Ops P ops K (Oper.mk (some d) (.field t x i) ty pos af none :: rest) ρ w :=
  Ops.val (by simp [execOp, hx, Instr.field, run_underlying ht, hf, part, ha, hv, asAgg, Result.andThen]) h

theorem Ops.rangeT {s : ByteArray} (ht : P.underlying t = some .string) (hS : SL I O E w) (hx : ev ρ x = .string s)
    (h : ∀ b w', SL I ((b, .stringIter s 0) :: O) E w' → Ops P ops K rest (upd ρ d (.pointer (some ⟨b, 0, none⟩))) w') : Ops P ops K (Oper.mk (some d) (.range t x) ty pos af none :: rest) ρ w := by
  refine Ops.step rfl ?_
  unfold OpW
  have : (execOp (ev ρ) (Oper.mk (some d) (.range t x) ty pos af none)).run P w = .ok (.value (.pointer (some ⟨w.heap.size, 0, none⟩))) (w.alloc (.stringIter s 0)) := by
    simp [execOp, Instr.range, hx, run_underlying ht]
  rw [this]
  exact h _ _ (hS.alloc _)

theorem run_getObj_str {s : ByteArray} {p b : Nat} (hb : w.heap[b]? = some (.stringIter s p)) : (getObj b).run P w = .ok (.stringIter s p) w := by
  unfold getObj; rw [Sem.run, hb]; rfl
theorem run_setObj_str {s : ByteArray} {p b : Nat} (hb : w.heap[b]? = some (.stringIter s p)) (o : Obj) : (setObj b o).run P w = .ok () { w with heap := w.heap.setIfInBounds b o } := by
  unfold setObj; rw [Sem.run, hb]; rfl

theorem Ops.nextT {s : ByteArray} {p b : Nat} (hS : SL I ((b, .stringIter s p) :: O) E w) (hx : ev ρ x = .pointer (some ⟨b, 0, none⟩)) (hp : p < s.size)
    (h : ∀ w', SL I ((b, .stringIter s (p + (Utf8.decode s p).2)) :: O) E w' → Ops P ops K rest (upd ρ d (.tuple [.bool true, .int .i64 p, .int .i32 (Utf8.decode s p).1].toArray)) w') : Ops P ops K (Oper.mk (some d) (.next x true) ty pos af none :: rest) ρ w := by
  have hb := hS.own _ (.head _)
  simp only at hb
  refine Ops.step rfl ?_
  unfold OpW
  have : (execOp (ev ρ) (Oper.mk (some d) (.next x true) ty pos af none)).run P w = .ok (.value (.tuple [.bool true, .int .i64 p, .int .i32 (Utf8.decode s p).1].toArray)) { w with heap := w.heap.setIfInBounds b (.stringIter s (p + (Utf8.decode s p).2)) } := by
    simp [execOp, Instr.next, hx, run_getObj_str hb, run_setObj_str hb, Result.andThen, hp, goInt]
  rw [this]
  refine h _ (hS.turn rfl rfl rfl ?_ ?_)
  · simp [lt_of_some hb]
  · intro k hk; simp [Array.getElem?_setIfInBounds, Ne.symm hk]

theorem Ops.nextTover {s : ByteArray} {p b : Nat} (hS : SL I ((b, .stringIter s p) :: O) E w) (hx : ev ρ x = .pointer (some ⟨b, 0, none⟩)) (hp : ¬ p < s.size)
    (h : Ops P ops K rest (upd ρ d (.tuple [.bool false].toArray)) w) : Ops P ops K (Oper.mk (some d) (.next x true) ty pos af none :: rest) ρ w := by
  have hb := hS.own _ (.head _)
  simp only at hb
  refine Ops.step rfl ?_
  unfold OpW
  have : (execOp (ev ρ) (Oper.mk (some d) (.next x true) ty pos af none)).run P w = .ok (.value (.tuple [.bool false].toArray)) w := by
    simp [execOp, Instr.next, hx, run_getObj_str hb, Result.andThen, hp]
  rw [this]
  exact h

theorem Ops.makeFuncR {f : Go.Fn} {l m : List Operand} {a c : List Value} (hl : l.map (ev ρ) = a) (hm : m.map (ev ρ) = c) (h : Ops P ops K rest (upd ρ d (.func f a.toArray c.toArray)) w) :
    Ops P ops K (Oper.mk (some d) (.makeFunc f l.toArray m.toArray) ty pos af none :: rest) ρ w :=
  Ops.val (by subst hl; subst hm; simp [execOp, Instr.makeFunc]) h

section
variable {n : Nat} {R : Value → World → Prop}
theorem finCAP {t T b sz : Nat} {cs : List Value} {T' : TypeId} {f : Nat × Nat} (hS : SL I O E w) (hv : ρ t = .pointer (some ⟨b, 0, none⟩)) (hb : I b = some (.cells cs.toArray T' f))
    (ha : ∀ w, (isAgg T).run P w = .ok true w) (hs : ∀ w, (sizeOf T).run P w = .ok sz w) (hl : cs.length = sz) (h : R (.agg cs.toArray) w) : finQ P #[.cell t T] R .ret ρ w :=
  finC hv (run_loadVar_agg ha (by rw [hl]; exact hs) (fun j v hj => by rw [hS.cell_pers hb]; simpa using hj)) h
theorem finCAO {t T b sz : Nat} {cs : List Value} {T' : TypeId} {f : Nat × Nat} (hS : SL I O E w) (hv : ρ t = .pointer (some ⟨b, 0, none⟩)) (hb : (b, Obj.cells cs.toArray T' f) ∈ O)
    (ha : ∀ w, (isAgg T).run P w = .ok true w) (hs : ∀ w, (sizeOf T).run P w = .ok sz w) (hl : cs.length = sz) (h : R (.agg cs.toArray) w) : finQ P #[.cell t T] R .ret ρ w :=
  finC hv (run_loadVar_agg ha (by rw [hl]; exact hs) (fun j v hj => by have := hS.own _ hb; simp only at this; simpa [World.cell?, this] using hj)) h
end

theorem decode_ascii {s : ByteArray} {p : Nat} {b : UInt8} (h : s.data[p]? = some b) (hb : b < 128) : Utf8.decode s p = (b.toNat, 1) := by
  unfold Utf8.decode
  have h1 : s.get! p = b := by
    show s.data[p]! = b
    rw [getElem!_def, h]
  have h2 : b.toNat < 128 := hb
  simp [h1, h2]

theorem Ops.nextA {s : ByteArray} {p b : Nat} {c : UInt8} (hS : SL I ((b, .stringIter s p) :: O) E w) (hx : ev ρ x = .pointer (some ⟨b, 0, none⟩)) (hc : s.data[p]? = some c) (hc2 : c < 128)
    (h : ∀ w', SL I ((b, .stringIter s (p + 1)) :: O) E w' → Ops P ops K rest (upd ρ d (.tuple [.bool true, .int .i64 p, .int .i32 (c.toNat : Int)].toArray)) w') : Ops P ops K (Oper.mk (some d) (.next x true) ty pos af none :: rest) ρ w := by
  have hp : p < s.size := by
    by_cases hp : p < s.data.size
    · exact hp
    · rw [Array.getElem?_eq_none (by omega)] at hc; cases hc
  refine Ops.nextT hS hx hp ?_
  rw [decode_ascii hc hc2]
  exact h

theorem Ops.guardU {dd : Option Nat} {op : Op} {j s : Nat} {b : Bool} (hs : (ops[j]?).bind (fun o : Oper => o.dst) = some s) (hv : ρ s = undef)
    (k : Ops P ops K rest (updO ρ dd undef) w) : Ops P ops K (Oper.mk dd op ty pos af (some (j, b)) :: rest) ρ w := by
  unfold Ops
  rw [if_neg (by simp only [wantedE, hs, hv]; simp [undef])]
  exact k
theorem Ops.guardUd {op : Op} {j s : Nat} {b : Bool} (hs : (ops[j]?).bind (fun o : Oper => o.dst) = some s) (hv : ρ s = undef)
    (k : Ops P ops K rest (upd ρ d undef) w) : Ops P ops K (Oper.mk (some d) op ty pos af (some (j, b)) :: rest) ρ w := Ops.guardU hs hv k

theorem Ops.buildSliceN {n : Nat} {l : List (Nat × Operand)} {vals : List (Nat × Value)} {cs : List Value} (hrun : ∀ w, (Instr.buildSlice t n vals.toArray).run P w = .ok (.slice (some ⟨w.heap.size, 0, none⟩) n n) (w.alloc (.cells cs.toArray e)))
    (hS : SL I O E w) (hv : l.map (fun p => (p.1, ev ρ p.2)) = vals) (h : ∀ b w' J, I.le J → J b = some (.cells cs.toArray e (0, 0)) → SL J O E w' → Ops P ops K rest (upd ρ d (.slice (some ⟨b, 0, none⟩) n n)) w') :
    Ops P ops K (Oper.mk (some d) (.buildSlice t n l.toArray) ty pos af none :: rest) ρ w := by
  refine Ops.step rfl ?_
  unfold OpW
  have : (execOp (ev ρ) (Oper.mk (some d) (.buildSlice t n l.toArray) ty pos af none)).run P w = .ok (.value (.slice (some ⟨w.heap.size, 0, none⟩) n n)) (w.alloc (.cells cs.toArray e)) := by
    subst hv; simp only [execOp, List.map_toArray]; rw [Sem.run_bind, hrun]; rfl
  rw [this]
  exact h _ _ _ (hS.alloc_pers _).1 (Ghost.put_same _ _ _) (hS.alloc_pers _).2

/-- Where an appended list comes from: cells that are known for ever. -/
theorem Src.known {k m : Nat} {b : Nat} {cs : List Value} {T : TypeId} {f : Nat × Nat} (hb : I b = some (.cells cs.toArray T f)) (hv : ∀ u ∈ cs, u.oneCell' = true) (hk : cs.length = m * k) : Src I O k (some ⟨b, 0, none⟩) m cs :=
  ⟨hk, hv, .inr ⟨_, rfl, fun j u hj => ⟨b, 0, rfl, .inl ⟨_, T, f, hb, by simpa using hj⟩⟩⟩⟩

/-- The next number, at a slice of words. -/
def RStr (_ : Ghost) (_ : Own) (l : List Value) (x : ByteArray) : Prop := l = [.string x]
theorem RStr.stays : Stays RStr := fun _ _ _ _ _ _ _ _ h => h

theorem SL.more {w' : World} (h : SL I O E w) (h1 : w'.os = w.os) (h2 : w'.output = w.output) (h3 : w'.tape = w.tape) (h4 : ∀ k, k < w.heap.size → w'.heap[k]? = w.heap[k]?) : SL I O E w' :=
  ⟨h1.trans h.os, h2.trans h.output, h3.trans h.tape, fun b o hI => by rw [h4 b (lt_of_some (h.pers b o hI))]; exact h.pers b o hI,
    fun x hx => by rw [h4 x.1 (lt_of_some (h.own x hx))]; exact h.own x hx, h.nodup, h.apart, h.base, h.flat, h.oflat⟩

theorem Sl.place {α : Type} {k : Nat} {R : Ghost → Own → List Value → α → Prop} {xs : List α} {v : α} {a : Option Addr} {n c j : Nat} (hR : Sl k R I O a n c xs) (hj : xs[j]? = some v) :
    ∃ b off l, a = some ⟨b, off, none⟩ ∧ j < n ∧ l.length = k ∧ R I O l v ∧ ∀ i u, l[i]? = some u → At I O b (off + j * k + i) u := by
  obtain ⟨hn, _, _, hel⟩ := hR
  obtain ⟨b, off, l, h1, h2, h3, h4⟩ := hel j v hj
  exact ⟨b, off, l, h1, by rw [hn]; exact (List.getElem?_eq_some_iff.1 hj).1, h2, h3, h4⟩

theorem Ops.eqlA {xs ys : Array Value} {r : Bool} {u : TypeId} (hg : P.eqGuardType P.depth t = false) (hx : ev ρ x = .agg xs) (hy : ev ρ y = .agg ys) (hr : ∀ w, (Op.equalIn 10000 t (.agg xs) (.agg ys)).run P w = .ok r w)
    (h : Ops P ops K rest (upd ρ d (.bool r)) w) : Ops P ops K (Oper.mk (some d) (.binOp .eql t x y u) ty pos af none :: rest) ρ w :=
  Ops.val (by simp only [execOp, hx, hy]; simp [run_eqGuard_agg w .eql t x y xs ys hg, run_eql_struct, hr]) h
theorem Ops.neqA {xs ys : Array Value} {r : Bool} {u : TypeId} (hg : P.eqGuardType P.depth t = false) (hx : ev ρ x = .agg xs) (hy : ev ρ y = .agg ys) (hr : ∀ w, (Op.equalIn 10000 t (.agg xs) (.agg ys)).run P w = .ok r w)
    (h : Ops P ops K rest (upd ρ d (.bool (!r))) w) : Ops P ops K (Oper.mk (some d) (.binOp .neq t x y u) ty pos af none :: rest) ρ w :=
  Ops.val (by simp only [execOp, hx, hy]; simp [run_eqGuard_agg w .neq t x y xs ys hg, run_neq_struct, hr]) h

theorem Run.loadAk {b off sz : Nat} {cs : List Value} (hS : SL I O E w) (hx : ev ρ x = .pointer (some ⟨b, off, none⟩)) (hv : ∀ j v, cs[j]? = some v → At I O b (off + j) v)
    (ha : ∀ w, (isAgg t).run P w = .ok true w) (hs : ∀ w, (sizeOf t).run P w = .ok sz w) (hl : cs.length = sz) :
    (execOp (ev ρ) (Oper.mk (some d) (.load t x) ty pos af none)).run P w = .ok (.value (.agg cs.toArray)) w := Run.loadA ha (by rw [hl]; exact hs) hS hx hv

theorem Sl.upto {α : Type} {k : Nat} {R : Ghost → Own → List Value → α → Prop} {J : Ghost} {xs : List α} {a : Option Addr} {n c : Nat} (hR : Stays R) (hl : I.le J) (h : Sl k R I O a n c xs) : Sl k R J O a n c xs := Sl.mono' hR hl (fun _ h => h) h
end
end Go.Proofs.YtlfhoiakmbcnlaaDoor
