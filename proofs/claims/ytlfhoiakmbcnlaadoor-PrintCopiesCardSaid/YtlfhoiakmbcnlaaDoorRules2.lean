/- Rules for memory that is made, written, grown. No conditions but bounds. -/
import Derived.Test.YtlfhoiakmbcnlaaDoorRules
import Derived.Laws.CopyRow
namespace Go.Proofs.YtlfhoiakmbcnlaaDoor

theorem SL.freeze' {I : Ghost} {O : List (Nat × Obj)} {E w : World} {b : Nat} {o : Obj} (h : SL I ((b, o) :: O) E w) : ∃ J, I.le J ∧ J b = some o ∧ SL J O E w :=
  ⟨_, h.freeze.1, Ghost.put_same _ _ _, h.freeze.2⟩

/-- A slice that is owned whole: nil, or the head of a block of one's own, with room behind it. -/
def OwnS (k : Nat) (e : TypeId) (a : Option Addr) (n cap : Nat) (cs : List Value) (A : List (Nat × Obj)) : Prop :=
  cs.length = n * k ∧ n ≤ cap ∧ ((a = none ∧ cap = 0 ∧ A = []) ∨ ∃ b junk, a = some ⟨b, 0, none⟩ ∧ A = [(b, .cells (cs ++ junk).toArray e (0, 0))] ∧ (cs ++ junk).length = cap * k)

theorem OwnS.nil (k : Nat) (e : TypeId) : OwnS k e none 0 0 [] [] := ⟨by simp, Nat.le_refl _, .inl ⟨rfl, rfl, rfl⟩⟩
theorem OwnS.made {k : Nat} {e : TypeId} {b n : Nat} {cs : List Value} (h : cs.length = n * k) : OwnS k e (some ⟨b, 0, none⟩) n n cs [(b, .cells cs.toArray e (0, 0))] :=
  ⟨h, Nat.le_refl _, .inr ⟨b, [], rfl, by simp, by simpa using h⟩⟩

/-- Cells that a slice leads to. -/
def Src (I : Ghost) (O : List (Nat × Obj)) (k : Nat) (a : Option Addr) (m : Nat) (cs : List Value) : Prop :=
  cs.length = m * k ∧ (∀ u ∈ cs, u.oneCell' = true) ∧ ((a = none ∧ m = 0) ∨ ∃ p, a = some p ∧ ∀ (j : Nat) (u : Value), cs[j]? = some u → ∃ b off, p = ⟨b, off, none⟩ ∧ At I O b (off + j) u)

section
variable {P : Program} {ops : Array Oper} {K : Env → World → Prop} {ρ : Env} {w : World} {rest : List Oper}
variable {d ty : Nat} {pos : String} {af : Array Edge} {x y z : Operand} {t u e : TypeId}
variable {I : Ghost} {O A : List (Nat × Obj)} {E : World}

theorem run_append_SL {i : TypeInfo} {z : Value} {k n m cap sc : Nat} {a sa : Option Addr} {cs news : List Value} (ht : P.underlying t = some (.slice e)) (hi : P.info? e = some i) (hz : i.zero = some z) (hk : i.size = k)
    (hzc : z.cells.size = k) (hS : SL I (A ++ O) E w) (hA : OwnS k e a n cap cs A) (hs : Src I (A ++ O) k sa m news) (hb : (n + m) * i.bytes ≤ 140737488355328) (hb2 : n + m ≤ 140737488355328) :
    ∃ a' cap' A' w', (Builtin.append_ #[t, t] ty #[.slice a n cap, .slice sa m sc]).run P w = .ok (.slice a' (n + m) cap') w' ∧ OwnS k e a' (n + m) cap' (cs ++ news) A' ∧ SL I (A' ++ O) E w' ∧
      (a' = none → a = none ∧ m = 0) := by
  subst hk
  obtain ⟨hcl, hnc, hA⟩ := hA
  obtain ⟨hnl, h1, hs⟩ := hs
  rcases hs with ⟨rfl, rfl⟩ | ⟨sp, rfl, hat⟩
  · -- nothing is put behind it
    have hn : news = [] := List.eq_nil_of_length_eq_zero (by simpa using hnl)
    subst hn
    refine ⟨a, cap, A, w, ?_, ⟨by simpa using hcl, by omega, by simpa using hA⟩, hS, fun h => ⟨h, rfl⟩⟩
    have hle : n ≤ cap := hnc
    cases a <;> simp [Builtin.append_, run_underlying ht, sizeOf, typeInfo, hi, Builtin.lenOf, Builtin.firstCells, hle, storeCells]
  · have hcell : ∀ (j : Nat) (v : Value), news[j]? = some v → w.cell? (sp.add j) = some v := fun j v hj => by
      obtain ⟨b, off, rfl, h⟩ := hat j v hj
      rw [addr_add]; exact hS.at_ h
    rcases hA with ⟨rfl, rfl, rfl⟩ | ⟨b, junk, rfl, rfl, hjl⟩
    · have hn0 : n = 0 := by omega
      subst hn0
      have hcs : cs = [] := List.eq_nil_of_length_eq_zero (by simpa using hcl)
      subst hcs
      rcases Nat.eq_zero_or_pos m with rfl | hm
      · have hn : news = [] := List.eq_nil_of_length_eq_zero (by simpa using hnl)
        subst hn
        refine ⟨none, 0, [], w, ?_, OwnS.nil _ _, hS, fun _ => ⟨rfl, rfl⟩⟩
        simp [Builtin.append_, run_underlying ht, sizeOf, typeInfo, hi, Builtin.lenOf, Builtin.firstCells, loadCells, loadCellsFrom]
      · have hrun := run_append_nil (P := P) w t ty e i z ht hi hz sp m sc news hnl hcell hm (by omega) (by have := hb; simp at this; omega)
        simp only [Nat.zero_add, List.nil_append] at *
        refine ⟨_, _, [(w.heap.size, .cells (news.toArray ++ Builtin.zeroCells z.cells (grownCap w m 0 e - m)) e (0, 0))], _, hrun, ⟨hnl, grownCap_ge _ _ _ _, .inr ⟨_, (Builtin.zeroCells z.cells (grownCap w m 0 e - m)).toList, rfl, ?_, ?_⟩⟩, (hS.drew).alloc _, fun h => by cases h⟩
        · congr 2; congr 1; simp
        · have := grownCap_ge w m 0 e
          simp only [List.length_append, hnl, Array.length_toList, size_zeroCells, hzc, ← Nat.add_mul]
          congr 1; omega
    · have hown := hS.own (b, .cells (cs ++ junk).toArray e (0, 0)) (by simp)
      simp only at hown
      have hjl' : cs.length + junk.length = cap * i.size := by simpa using hjl
      by_cases hroom : n + m ≤ cap
      · have hmul : (n + m) * i.size ≤ cap * i.size := Nat.mul_le_mul_right _ hroom
        have hrun := run_append_room (P := P) w t ty e i ht hi b n cap (cs ++ junk).toArray hown sp m sc news hnl hcell h1 hroom (by simp; rw [hnl, ← Nat.add_mul]; omega)
        have hshape : (List.take (n * i.size) (cs ++ junk).toArray.toList ++ news ++ List.drop (n * i.size + news.length) (cs ++ junk).toArray.toList) = (cs ++ news) ++ junk.drop news.length := by
          have e1 : n * i.size = cs.length := hcl.symm
          simp only [e1]
          rw [List.take_left, List.drop_append, List.drop_eq_nil_of_le (by omega : cs.length ≤ cs.length + news.length)]
          simp
        rw [hshape] at hrun
        refine ⟨_, _, [(b, .cells ((cs ++ news) ++ junk.drop news.length).toArray e (0, 0))], _, hrun, ⟨by rw [List.length_append, hcl, hnl, Nat.add_mul], hroom, .inr ⟨b, _, rfl, rfl, ?_⟩⟩, ?_, fun h => by cases h⟩
        · have : news.length ≤ junk.length := by
            rw [Nat.add_mul] at hmul; omega
          simp only [List.length_append, List.length_drop]; omega
        · refine SL.turn (w := w) hS rfl rfl rfl ?_ ?_
          · simp [World.setRow, Array.getElem?_modify, hown]
          · intro k hk
            simp only [World.setRow, Array.getElem?_modify]
            rw [if_neg (by omega)]
      · have hlt : cap < n + m := by omega
        have hrun := run_append_grow (P := P) w t ty e i z ht hi hz ⟨b, 0, none⟩ n cap cs hcl (fun j v hj => by
          rw [addr_add, Nat.zero_add]
          refine hS.at_ (.inr ⟨_, _, _, List.mem_append_left _ (List.mem_singleton.2 rfl), ?_⟩)
          have := (List.getElem?_eq_some_iff.1 hj).1
          rw [List.getElem?_toArray, List.getElem?_append_left this]; exact hj) sp m sc news hnl hcell hlt (by omega) (growslice_fits hlt hb)
        refine ⟨_, _, [(w.heap.size, .cells (cs.toArray ++ news.toArray ++ Builtin.zeroCells z.cells (grownCap w (n + m) cap e - (n + m))) e (0, 0))], _, hrun, ⟨by rw [List.length_append, hcl, hnl, Nat.add_mul], grownCap_ge _ _ _ _, .inr ⟨_, (Builtin.zeroCells z.cells (grownCap w (n + m) cap e - (n + m))).toList, rfl, ?_, ?_⟩⟩, ?_, fun h => by cases h⟩
        · congr 2; congr 1; simp
        · have := grownCap_ge w (n + m) cap e
          simp only [List.length_append, hcl, hnl, Array.length_toList, size_zeroCells, hzc, ← Nat.add_mul]
          congr 1; omega
        · have h2 := (hS.drew).alloc (.cells (cs.toArray ++ news.toArray ++ Builtin.zeroCells z.cells (grownCap w (n + m) cap e - (n + m))) e (0, 0))
          refine h2.sub ?_
          exact List.Sublist.cons_cons _ (List.sublist_cons_self _ _)

theorem Ops.append {i : TypeInfo} {z : Value} {k n m cap sc : Nat} {a sa : Option Addr} {cs news : List Value} (ht : P.underlying t = some (.slice e)) (hi : P.info? e = some i) (hz : i.zero = some z) (hk : i.size = k)
    (hzc : z.cells.size = k) (hx : ev ρ x = .slice a n cap) (hy : ev ρ y = .slice sa m sc) (hS : SL I (A ++ O) E w) (hA : OwnS k e a n cap cs A) (hs : Src I (A ++ O) k sa m news) (hb : (n + m) * i.bytes ≤ 140737488355328) (hb2 : n + m ≤ 140737488355328)
    (h : ∀ a' cap' A' w', OwnS k e a' (n + m) cap' (cs ++ news) A' → SL I (A' ++ O) E w' → (a' = none → a = none ∧ m = 0) → Ops P ops K rest (upd ρ d (.slice a' (n + m) cap')) w') :
    Ops P ops K (Oper.mk (some d) (.call { callee := .builtin .append, args := #[x, y], argTypes := #[t, t] }) ty pos af none :: rest) ρ w := by
  obtain ⟨a', cap', A', w', hrun, h1, h2, h3⟩ := run_append_SL (ty := ty) (sc := sc) ht hi hz hk hzc hS hA hs hb hb2
  refine Ops.step rfl ?_
  unfold OpW
  have : (execOp (ev ρ) (Oper.mk (some d) (.call { callee := .builtin .append, args := #[x, y], argTypes := #[t, t] }) ty pos af none)).run P w = .ok (.value (.slice a' (n + m) cap')) w' := by
    simp [execOp, resolve, hx, hy, invoke, builtin, hrun]
  rw [this]
  exact h _ _ _ _ h1 h2 h3

theorem run_newVar {v : Value} (w : World) : (newVar t v).run P w = .ok ⟨w.heap.size, 0, none⟩ (w.alloc (.cells v.cells t)) := by
  simp [newVar, newRow]

/-- A variable of its own, which is never written again. -/
theorem Ops.boxP {v : Value} (hS : SL I O E w) (hx : ev ρ x = v) (h : ∀ b w' J, I.le J → J b = some (.cells v.cells t (0, 0)) → SL J O E w' → Ops P ops K rest (upd ρ d (.pointer (some ⟨b, 0, none⟩))) w') :
    Ops P ops K (Oper.mk (some d) (.box t x) ty pos af none :: rest) ρ w := by
  refine Ops.step rfl ?_
  unfold OpW
  have : (execOp (ev ρ) (Oper.mk (some d) (.box t x) ty pos af none)).run P w = .ok (.value (.pointer (some ⟨w.heap.size, 0, none⟩))) (w.alloc (.cells v.cells t)) := by
    simp [execOp, hx, Instr.box, run_newVar]
  rw [this]
  exact h _ _ _ (hS.alloc_pers _).1 (Ghost.put_same _ _ _) (hS.alloc_pers _).2

theorem Ops.boxO {v : Value} (hS : SL I O E w) (hx : ev ρ x = v) (h : ∀ b w', SL I ((b, .cells v.cells t (0, 0)) :: O) E w' → Ops P ops K rest (upd ρ d (.pointer (some ⟨b, 0, none⟩))) w') :
    Ops P ops K (Oper.mk (some d) (.box t x) ty pos af none :: rest) ρ w := by
  refine Ops.step rfl ?_
  unfold OpW
  have : (execOp (ev ρ) (Oper.mk (some d) (.box t x) ty pos af none)).run P w = .ok (.value (.pointer (some ⟨w.heap.size, 0, none⟩))) (w.alloc (.cells v.cells t)) := by
    simp [execOp, hx, Instr.box, run_newVar]
  rw [this]
  exact h _ _ (hS.alloc _)

theorem Ops.alloc {zv : Value} (hz : ∀ w, (zeroValue t).run P w = .ok zv w) (hS : SL I O E w) (h : ∀ b w', SL I ((b, .cells zv.cells t (0, 0)) :: O) E w' → Ops P ops K rest (upd ρ d (.pointer (some ⟨b, 0, none⟩))) w') :
    Ops P ops K (Oper.mk (some d) (.alloc t) ty pos af none :: rest) ρ w := by
  refine Ops.step rfl ?_
  unfold OpW
  have : (execOp (ev ρ) (Oper.mk (some d) (.alloc t) ty pos af none)).run P w = .ok (.value (.pointer (some ⟨w.heap.size, 0, none⟩))) (w.alloc (.cells zv.cells t)) := by
    simp [execOp, Instr.alloc, hz, run_newVar]
  rw [this]
  exact h _ _ (hS.alloc _)

/-- A store into one cell of an owned block. -/
theorem Ops.store1 {b off : Nat} {cs : List Value} {T : TypeId} {v : Value} (hs : ∀ w, (sizeOf t).run P w = .ok 1 w) (hx : ev ρ x = .pointer (some ⟨b, off, none⟩)) (hy : ev ρ y = v) (hv : v.oneCell' = true) (ho : off < cs.length)
    (hS : SL I ([(b, .cells cs.toArray T (0, 0))] ++ O) E w) (h : ∀ w', SL I ([(b, .cells (cs.set off v).toArray T (0, 0))] ++ O) E w' → Ops P ops K rest ρ w') :
    Ops P ops K (Oper.mk none (.store t x y) ty pos af none :: rest) ρ w := by
  refine Ops.step rfl ?_
  unfold OpW
  have hS : SL I ((b, .cells cs.toArray T (0, 0)) :: O) E w := hS
  have hown := hS.own (b, .cells cs.toArray T (0, 0)) (by simp)
  simp only at hown
  have hvc : v.cells = #[v] := by cases v <;> first | rfl | (simp [Value.oneCell'] at hv)
  have hc : w.cell? ⟨b, off, none⟩ = some cs[off] := by simp [World.cell?, hown, ho]
  have hf : w.frozen? ⟨b, off, none⟩ = false := by simp [World.frozen?, hown]
  have hst : (store (⟨b, off, none⟩ : Addr) v).run P w = .ok () (w.setCell ⟨b, off, none⟩ v) := by
    rw [run_store P w ⟨b, off, none⟩ v .plain hv]; simp [hc, hf]
  have : (execOp (ev ρ) (Oper.mk none (.store t x y) ty pos af none)).run P w = .ok .skip (w.setCell ⟨b, off, none⟩ v) := by
    simp [execOp, hx, hy, Instr.storeAt, Instr.sureAddr, storeVar, hs, hvc, storeCells, addr_add, hst]
  rw [this]
  refine h _ ?_
  have := hS.set (i := off) (v := v)
  simpa using this

/-- A store over all of an owned block. -/
theorem Ops.storeAll {b : Nat} {old : Array Value} {cs : List Value} {T : TypeId} {v : Value} (hs : ∀ w, (sizeOf t).run P w = .ok cs.length w) (hx : ev ρ x = .pointer (some ⟨b, 0, none⟩)) (hy : ev ρ y = v) (hvc : v.cells = cs.toArray) (hv : ∀ u ∈ cs, u.oneCell' = true)
    (hl : old.size = cs.length) (hS : SL I ((b, .cells old T (0, 0)) :: O) E w) (h : ∀ w', SL I ((b, .cells cs.toArray T (0, 0)) :: O) E w' → Ops P ops K rest ρ w') :
    Ops P ops K (Oper.mk none (.store t x y) ty pos af none :: rest) ρ w := by
  refine Ops.step rfl ?_
  unfold OpW
  have hown := hS.own (b, .cells old T (0, 0)) (by simp)
  simp only at hown
  have hst : (storeCells (⟨b, 0, none⟩ : Addr) cs 0).run P w = .ok () (w.setRow b cs.toArray) := by
    rw [run_storeCells_at (P := P) b 0 T cs 0 old w hown (by omega) hv]
    have : List.drop (0 + 0 + cs.length) old.toList = [] := List.drop_eq_nil_of_le (by simp; omega)
    rw [this]; simp
  have : (execOp (ev ρ) (Oper.mk none (.store t x y) ty pos af none)).run P w = .ok .skip (w.setRow b cs.toArray) := by
    simp [execOp, hx, hy, Instr.storeAt, Instr.sureAddr, storeVar, hs, hvc, hst]
  rw [this]
  refine h _ (hS.turn rfl rfl rfl ?_ ?_)
  · simp [World.setRow, Array.getElem?_modify, hown]
  · intro k hk
    simp only [World.setRow, Array.getElem?_modify]
    rw [if_neg (by omega)]

end
end Go.Proofs.YtlfhoiakmbcnlaaDoor
