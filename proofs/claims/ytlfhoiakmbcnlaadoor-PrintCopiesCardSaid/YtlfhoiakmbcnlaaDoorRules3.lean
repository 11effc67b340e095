/- Rules in the form that the generator of walks uses. No conditions. -/
import Derived.Test.YtlfhoiakmbcnlaaDoorRules2
namespace Go.Proofs.YtlfhoiakmbcnlaaDoor

theorem Ghost.le.trans' {I J K : Ghost} (h : J.le K) (k : I.le J) : I.le K := k.trans h
theorem nm2 {ρ : Env} {t : Nat} {x : Value} (h : ρ t = x) : ∃ v, ρ t = v ∧ v = x := ⟨x, h, rfl⟩
theorem notT {b : Bool} (h : (!b) = true) : b = false := by cases b <;> simp_all
theorem notF {b : Bool} (h : (!b) = false) : b = true := by cases b <;> simp_all
theorem joinB {ρ : Env} {t : Nat} {b c : Bool} (h : ρ t = .bool b) (e : b = c) : ρ t = .bool c := e ▸ h
theorem joinI {ρ : Env} {t : Nat} {k : IntKind} {b c : Int} (h : ρ t = .int k b) (e : b = c) : ρ t = .int k c := e ▸ h
theorem joinT {ρ : Env} {t : Nat} {b c : ByteArray} (h : ρ t = .string b) (e : b = c) : ρ t = .string c := e ▸ h
theorem nm {ρ ρ' : Env} (h : ρ' = ρ) (t : Nat) : ∃ v, ρ' t = v ∧ v = ρ t := ⟨ρ t, congrFun h t, rfl⟩

section
variable {P : Program} {n : Nat} {Q : Exit → Env → World → Prop} {ρ : Env} {w : World}
theorem WP.env {c : Code} (h : ∀ ρ', ρ' = ρ → WP P n c Q ρ' w) : WP P n c Q ρ w := h ρ rfl
theorem WP.condIsT {c : Operand} {x y : Code} {t : Bool} (hc : ev ρ c = .bool t) (ht : t = true) (h : WP P n x Q ρ w) : WP P n (.cond c x y) Q ρ w := WP.cond hc (by rw [if_pos ht]; exact h)
theorem WP.condIsF {c : Operand} {x y : Code} {t : Bool} (hc : ev ρ c = .bool t) (ht : t = false) (h : WP P n y Q ρ w) : WP P n (.cond c x y) Q ρ w := WP.cond hc (by subst ht; simpa using h)

variable {R : Value → World → Prop}
theorem fin0 (h : R (.tuple #[]) w) : finQ P #[] R .ret ρ w := ⟨.tuple #[], by simp [resE], h⟩
theorem fin1 {t : Nat} {v : Value} (hv : ρ t = v) (h : R v w) : finQ P #[.tmp t] R .ret ρ w := ⟨v, by subst hv; simp [resE], h⟩
theorem fin2 {t u : Nat} {v v' : Value} (hv : ρ t = v) (hv' : ρ u = v') (h : R (.tuple #[v, v']) w) : finQ P #[.tmp t, .tmp u] R .ret ρ w := ⟨.tuple #[v, v'], by subst hv; subst hv'; simp [resE], h⟩
theorem fin3 {t u s : Nat} {v v' v'' : Value} (hv : ρ t = v) (hv' : ρ u = v') (hv'' : ρ s = v'') (h : R (.tuple #[v, v', v'']) w) : finQ P #[.tmp t, .tmp u, .tmp s] R .ret ρ w :=
  ⟨.tuple #[v, v', v''], by subst hv; subst hv'; subst hv''; simp [resE], h⟩
theorem run_loadVar_agg {b off : Nat} {T : TypeId} {cs : List Value} (ha : ∀ w, (isAgg T).run P w = .ok true w) (hs : ∀ w, (sizeOf T).run P w = .ok cs.length w) (hv : ∀ j v, cs[j]? = some v → w.cell? ⟨b, off + j, none⟩ = some v) :
    (loadVar T ⟨b, off, none⟩).run P w = .ok (.agg cs.toArray) w := by
  have hl := run_loadCells_list (P := P) w ⟨b, off, none⟩ cs (fun j v hj => by rw [addr_add]; exact hv j v hj)
  simp [loadVar, ha, hs, hl]
theorem run_loadVar_one {b off : Nat} {T : TypeId} {v : Value} (ha : ∀ w, (isAgg T).run P w = .ok false w) (hv : w.cell? ⟨b, off, none⟩ = some v) : (loadVar T ⟨b, off, none⟩).run P w = .ok v w := by
  simp [loadVar, ha, hv]
theorem finC {t T : Nat} {b : Nat} {v : Value} (hv : ρ t = .pointer (some ⟨b, 0, none⟩)) (hl : (loadVar T ⟨b, 0, none⟩).run P w = .ok v w) (h : R v w) : finQ P #[.cell t T] R .ret ρ w :=
  ⟨v, by simp [resE, hv, asAddr, hl], h⟩
theorem finCT {t T u : Nat} {b : Nat} {v v' : Value} (hv : ρ t = .pointer (some ⟨b, 0, none⟩)) (hl : (loadVar T ⟨b, 0, none⟩).run P w = .ok v w) (hu : ρ u = v') (h : R (.tuple #[v, v']) w) : finQ P #[.cell t T, .tmp u] R .ret ρ w :=
  ⟨.tuple #[v, v'], by subst hu; simp [resE, hv, asAddr, hl], h⟩
end

section
variable {P : Program} {ops : Array Oper} {K : Env → World → Prop} {ρ : Env} {w : World} {rest : List Oper}
variable {d d2 ty ty2 : Nat} {pos pos2 : String} {af af2 : Array Edge} {x y z : Operand} {t u e : TypeId}
variable {I : Ghost} {O A : List (Nat × Obj)} {E : World}

theorem Ops.case {s : Nat} {t : Bool} {l : List Oper} (hv : ρ s = .bool t) (h1 : t = true → Ops P ops K l ρ w) (h2 : t = false → Ops P ops K l ρ w) : Ops P ops K l ρ w := by
  have _ := hv
  cases t
  · exact h2 rfl
  · exact h1 rfl

def dstsOf (l : List Oper) : List Nat := l.filterMap (·.dst)
theorem Ops.frame : ∀ (l : List Oper) (ρ : Env) (w : World), Ops P ops K l ρ w → Ops P ops (fun ρ' w' => K ρ' w' ∧ ∀ t, (dstsOf l).contains t = false → ρ' t = ρ t) l ρ w
  | [], _, _, h => ⟨h, fun _ _ => rfl⟩
  | o :: rest, ρ, w, h => by
    have key : ∀ v, ∀ ρ' w', (K ρ' w' ∧ ∀ t, (dstsOf rest).contains t = false → ρ' t = updO ρ o.dst v t) → (K ρ' w' ∧ ∀ t, (dstsOf (o :: rest)).contains t = false → ρ' t = ρ t) := by
      rintro v ρ' w' ⟨h1, h2⟩
      refine ⟨h1, fun t ht => ?_⟩
      cases hd : o.dst with
      | none =>
        simp only [dstsOf, List.filterMap_cons, hd] at ht
        rw [h2 t ht, hd]; rfl
      | some d =>
        simp only [dstsOf, List.filterMap_cons, hd, List.contains_cons, Bool.or_eq_false_iff] at ht
        rw [h2 t ht.2, hd]
        exact upd_other _ _ (by simpa using ht.1)
    unfold Ops at *
    split
    · rename_i hw; rw [if_pos hw] at h
      exact h.mono fun v w' hv => Ops.mono (key v) _ _ _ (Ops.frame rest _ _ hv)
    · rename_i hw; rw [if_neg hw] at h
      exact Ops.mono (key undef) _ _ _ (Ops.frame rest _ _ h)

theorem Ops.cutF {l : List Oper} (J : Env → World → Prop) (h : Ops P ops J l ρ w) (hj : ∀ ρ' w', J ρ' w' → (∀ t, (dstsOf l).contains t = false → ρ' t = ρ t) → K ρ' w') : Ops P ops K l ρ w :=
  Ops.mono (fun ρ' w' ⟨h1, h2⟩ => hj ρ' w' h1 h2) _ _ _ (Ops.frame l ρ w h)

theorem Ops.pickTB {b c : Bool} (hc : ev ρ x = .bool b) (hb : b = true) (hy : ev ρ y = .bool c) (h : Ops P ops K rest (upd ρ d (.bool c)) w) : Ops P ops K (Oper.mk (some d) (.pick x y z) ty pos af none :: rest) ρ w := Ops.pickT hc hb hy h
theorem Ops.pickFB {b c : Bool} (hc : ev ρ x = .bool b) (hb : b = false) (hz : ev ρ z = .bool c) (h : Ops P ops K rest (upd ρ d (.bool c)) w) : Ops P ops K (Oper.mk (some d) (.pick x y z) ty pos af none :: rest) ρ w := Ops.pickF hc hb hz h
theorem Ops.pickTI {b : Bool} {k : IntKind} {c : Int} (hc : ev ρ x = .bool b) (hb : b = true) (hy : ev ρ y = .int k c) (h : Ops P ops K rest (upd ρ d (.int k c)) w) : Ops P ops K (Oper.mk (some d) (.pick x y z) ty pos af none :: rest) ρ w := Ops.pickT hc hb hy h
theorem Ops.pickFI {b : Bool} {k : IntKind} {c : Int} (hc : ev ρ x = .bool b) (hb : b = false) (hz : ev ρ z = .int k c) (h : Ops P ops K rest (upd ρ d (.int k c)) w) : Ops P ops K (Oper.mk (some d) (.pick x y z) ty pos af none :: rest) ρ w := Ops.pickF hc hb hz h

theorem Ops.extract0 {v : Value} {l : List Value} (hx : ev ρ x = .tuple (v :: l).toArray) (h : Ops P ops K rest (upd ρ d v) w) : Ops P ops K (Oper.mk (some d) (.extract x 0) ty pos af none :: rest) ρ w := Ops.extract hx (by simp) h
theorem Ops.extract1 {v v' : Value} {l : List Value} (hx : ev ρ x = .tuple (v' :: v :: l).toArray) (h : Ops P ops K rest (upd ρ d v) w) : Ops P ops K (Oper.mk (some d) (.extract x 1) ty pos af none :: rest) ρ w := Ops.extract hx (by simp) h
theorem Ops.extract2 {v v' v'' : Value} {l : List Value} (hx : ev ρ x = .tuple (v'' :: v' :: v :: l).toArray) (h : Ops P ops K rest (upd ρ d v) w) : Ops P ops K (Oper.mk (some d) (.extract x 2) ty pos af none :: rest) ρ w := Ops.extract hx (by simp) h

theorem Ops.field {fs : Array Field} {f : Field} {i : Nat} {b off r : Nat} {sz : Nat} (ht : P.underlying t = some (.struct fs)) (hf : fs[i]? = some f) (hs : ∀ w, (sizeOf f.type).run P w = .ok sz w) (hz : sz ≠ 0)
    (hx : ev ρ x = .pointer (some ⟨b, off, none⟩)) (hr : off + f.offset = r) (h : Ops P ops K rest (upd ρ d (.pointer (some ⟨b, r, none⟩))) w) :
    Ops P ops K (Oper.mk (some d) (.fieldAddr t x i) ty pos af none :: rest) ρ w :=
  Ops.val (by subst hr; simp [execOp, hx, Instr.fieldAt, run_underlying ht, hf, Instr.sureAddr, fieldPlace, hs, hz, addr_add]) h

theorem drop_get {cs tl : List Value} {off : Nat} {v : Value} (h : cs.drop off = v :: tl) : cs[off]? = some v := by
  have := congrArg (fun l => l[0]?) h
  simpa using this
theorem drop_get' {cs l tl : List Value} {off : Nat} (h : cs.drop off = l ++ tl) (j : Nat) (v : Value) (hj : l[j]? = some v) : cs[off + j]? = some v := by
  have := congrArg (fun l => l[j]?) h
  simp only [List.getElem?_drop] at this
  rw [this, List.getElem?_append_left (List.getElem?_eq_some_iff.1 hj).1]
  exact hj

theorem Ops.load1P {b off : Nat} {v : Value} {cs : List Value} {T : TypeId} {f : Nat × Nat} {tl : List Value} (ha : ∀ w, (isAgg t).run P w = .ok false w) (hS : SL I O E w) (hx : ev ρ x = .pointer (some ⟨b, off, none⟩)) (hb : I b = some (.cells cs.toArray T f)) (hv : cs.drop off = v :: tl)
    (h : Ops P ops K rest (upd ρ d v) w) : Ops P ops K (Oper.mk (some d) (.load t x) ty pos af none :: rest) ρ w :=
  Ops.load1 ha hS hx (.inl ⟨_, _, _, hb, by rw [List.getElem?_toArray]; exact drop_get hv⟩) h
theorem Ops.load1O {b off : Nat} {v : Value} {cs : List Value} {T : TypeId} {f : Nat × Nat} {tl : List Value} (ha : ∀ w, (isAgg t).run P w = .ok false w) (hS : SL I O E w) (hx : ev ρ x = .pointer (some ⟨b, off, none⟩)) (hb : (b, Obj.cells cs.toArray T f) ∈ O) (hv : cs.drop off = v :: tl)
    (h : Ops P ops K rest (upd ρ d v) w) : Ops P ops K (Oper.mk (some d) (.load t x) ty pos af none :: rest) ρ w :=
  Ops.load1 ha hS hx (.inr ⟨_, _, _, hb, by rw [List.getElem?_toArray]; exact drop_get hv⟩) h
theorem Ops.loadAllP {b : Nat} {cs : List Value} {T : TypeId} {f : Nat × Nat} {sz : Nat} (ha : ∀ w, (isAgg t).run P w = .ok true w) (hs : ∀ w, (sizeOf t).run P w = .ok sz w) (hS : SL I O E w) (hx : ev ρ x = .pointer (some ⟨b, 0, none⟩)) (hb : I b = some (.cells cs.toArray T f)) (hl : cs.length = sz)
    (h : Ops P ops K rest (upd ρ d (.agg cs.toArray)) w) : Ops P ops K (Oper.mk (some d) (.load t x) ty pos af none :: rest) ρ w :=
  Ops.loadA ha (by rw [hl]; exact hs) hS hx (fun j v hj => .inl ⟨_, _, _, hb, by rw [List.getElem?_toArray, Nat.zero_add]; exact hj⟩) h
theorem Ops.loadAllO {b : Nat} {cs : List Value} {T : TypeId} {f : Nat × Nat} {sz : Nat} (ha : ∀ w, (isAgg t).run P w = .ok true w) (hs : ∀ w, (sizeOf t).run P w = .ok sz w) (hS : SL I O E w) (hx : ev ρ x = .pointer (some ⟨b, 0, none⟩)) (hb : (b, Obj.cells cs.toArray T f) ∈ O) (hl : cs.length = sz)
    (h : Ops P ops K rest (upd ρ d (.agg cs.toArray)) w) : Ops P ops K (Oper.mk (some d) (.load t x) ty pos af none :: rest) ρ w :=
  Ops.loadA ha (by rw [hl]; exact hs) hS hx (fun j v hj => .inr ⟨_, _, _, hb, by rw [List.getElem?_toArray, Nat.zero_add]; exact hj⟩) h
theorem Ops.loadSub2P {b off : Nat} {cs tl : List Value} {c0 c1 : Value} {T : TypeId} {f : Nat × Nat} (ha : ∀ w, (isAgg t).run P w = .ok true w) (hs : ∀ w, (sizeOf t).run P w = .ok 2 w) (hS : SL I O E w) (hx : ev ρ x = .pointer (some ⟨b, off, none⟩)) (hb : I b = some (.cells cs.toArray T f)) (hl : cs.drop off = c0 :: c1 :: tl)
    (h : Ops P ops K rest (upd ρ d (.agg #[c0, c1])) w) : Ops P ops K (Oper.mk (some d) (.load t x) ty pos af none :: rest) ρ w :=
  Ops.loadA (cs := [c0, c1]) ha hs hS hx (fun j v hj => .inl ⟨_, _, _, hb, by rw [List.getElem?_toArray]; exact drop_get' (l := [c0, c1]) hl j v hj⟩) h
theorem Ops.loadSub2O {b off : Nat} {cs tl : List Value} {c0 c1 : Value} {T : TypeId} {f : Nat × Nat} (ha : ∀ w, (isAgg t).run P w = .ok true w) (hs : ∀ w, (sizeOf t).run P w = .ok 2 w) (hS : SL I O E w) (hx : ev ρ x = .pointer (some ⟨b, off, none⟩)) (hb : (b, Obj.cells cs.toArray T f) ∈ O) (hl : cs.drop off = c0 :: c1 :: tl)
    (h : Ops P ops K rest (upd ρ d (.agg #[c0, c1])) w) : Ops P ops K (Oper.mk (some d) (.load t x) ty pos af none :: rest) ρ w :=
  Ops.loadA (cs := [c0, c1]) ha hs hS hx (fun j v hj => .inr ⟨_, _, _, hb, by rw [List.getElem?_toArray]; exact drop_get' (l := [c0, c1]) hl j v hj⟩) h
theorem Ops.loadSub4P {b off : Nat} {cs tl : List Value} {c0 c1 c2 c3 : Value} {T : TypeId} {f : Nat × Nat} (ha : ∀ w, (isAgg t).run P w = .ok true w) (hs : ∀ w, (sizeOf t).run P w = .ok 4 w) (hS : SL I O E w) (hx : ev ρ x = .pointer (some ⟨b, off, none⟩)) (hb : I b = some (.cells cs.toArray T f)) (hl : cs.drop off = c0 :: c1 :: c2 :: c3 :: tl)
    (h : Ops P ops K rest (upd ρ d (.agg #[c0, c1, c2, c3])) w) : Ops P ops K (Oper.mk (some d) (.load t x) ty pos af none :: rest) ρ w :=
  Ops.loadA (cs := [c0, c1, c2, c3]) ha hs hS hx (fun j v hj => .inl ⟨_, _, _, hb, by rw [List.getElem?_toArray]; exact drop_get' (l := [c0, c1, c2, c3]) hl j v hj⟩) h

theorem Ops.boxPA {cs : Array Value} (hS : SL I O E w) (hx : ev ρ x = .agg cs) (h : ∀ b w' J, I.le J → J b = some (.cells cs t (0, 0)) → SL J O E w' → Ops P ops K rest (upd ρ d (.pointer (some ⟨b, 0, none⟩))) w') :
    Ops P ops K (Oper.mk (some d) (.box t x) ty pos af none :: rest) ρ w := Ops.boxP hS hx h
theorem Ops.boxP1 {v : Value} (hS : SL I O E w) (hx : ev ρ x = v) (hv : v.oneCell' = true) (h : ∀ b w' J, I.le J → J b = some (.cells #[v] t (0, 0)) → SL J O E w' → Ops P ops K rest (upd ρ d (.pointer (some ⟨b, 0, none⟩))) w') :
    Ops P ops K (Oper.mk (some d) (.box t x) ty pos af none :: rest) ρ w := by
  have hvc : v.cells = #[v] := by cases v <;> first | rfl | (simp [Value.oneCell'] at hv)
  exact Ops.boxP hS hx (by rw [hvc]; exact h)

theorem Ops.storeAllA {b : Nat} {old : Array Value} {cs : List Value} {T : TypeId} {sz : Nat} (hs : ∀ w, (sizeOf t).run P w = .ok sz w) (hx : ev ρ x = .pointer (some ⟨b, 0, none⟩)) (hy : ev ρ y = .agg cs.toArray) (hS : SL I ((b, .cells old T (0, 0)) :: O) E w) (hv : ∀ u ∈ cs, u.oneCell' = true)
    (hl : old.size = cs.length ∧ cs.length = sz) (h : ∀ w', SL I ((b, .cells cs.toArray T (0, 0)) :: O) E w' → Ops P ops K rest ρ w') :
    Ops P ops K (Oper.mk none (.store t x y) ty pos af none :: rest) ρ w :=
  Ops.storeAll (by rw [hl.2]; exact hs) hx hy rfl hv hl.1 hS h
theorem Ops.storeAll1 {b : Nat} {old : Array Value} {v : Value} {T : TypeId} (hs : ∀ w, (sizeOf t).run P w = .ok 1 w) (hx : ev ρ x = .pointer (some ⟨b, 0, none⟩)) (hy : ev ρ y = v) (hv : v.oneCell' = true)
    (hl : old.size = 1) (hS : SL I ((b, .cells old T (0, 0)) :: O) E w) (h : ∀ w', SL I ((b, .cells [v].toArray T (0, 0)) :: O) E w' → Ops P ops K rest ρ w') :
    Ops P ops K (Oper.mk none (.store t x y) ty pos af none :: rest) ρ w :=
  Ops.storeAll (cs := [v]) hs hx hy (by cases v <;> first | rfl | (simp [Value.oneCell'] at hv)) (by simpa using hv) hl hS h

theorem Ops.build {l : List (Nat × Operand)} {vals : List (Nat × Value)} {v : Value} (hrun : (Instr.build t vals.toArray).run P w = .ok v w) (hv : l.map (fun p => (p.1, ev ρ p.2)) = vals) (h : Ops P ops K rest (upd ρ d v) w) :
    Ops P ops K (Oper.mk (some d) (.build t l.toArray) ty pos af none :: rest) ρ w :=
  Ops.val (by subst hv; simp only [execOp, List.map_toArray]; rw [Sem.run_bind, hrun]; rfl) h

theorem run_buildSlice1 {i : TypeInfo} {zv v : Value} (w : World) (ht : P.underlying t = some (.slice e)) (hi : P.info? e = some i) (hz : i.zero = some zv) (hk : v.cells.size = i.size) (hp : 0 < i.size) (hm : i.size ≤ 16777216) (hzc : zv.cells.size = i.size) :
    (Instr.buildSlice t 1 #[(0, v)]).run P w = .ok (.slice (some ⟨w.heap.size, 0, none⟩) 1 1) (w.alloc (.cells v.cells e)) := by
  have hfill : ∀ (cs : Array Value), cs.size = v.cells.size → v.cells.zipIdx.foldl (fun cs (c, j) => cs.setIfInBounds (0 + j) c) cs = v.cells := by
    intro cs hcs
    apply Array.ext'
    have key : ∀ (l : List Value) (k : Nat) (cs : Array Value), k + l.length ≤ cs.size → ((l.zipIdx k).foldl (fun cs (x : Value × Nat) => cs.setIfInBounds (0 + x.2) x.1) cs).toList = cs.toList.take k ++ l ++ cs.toList.drop (k + l.length) := by
      intro l
      induction l with
      | nil => intro k cs _; simp
      | cons c l ih =>
        intro k cs hk
        simp only [List.zipIdx_cons, List.foldl_cons]
        rw [ih (k + 1) _ (by simp at hk ⊢; omega)]
        simp only [Array.toList_setIfInBounds, Nat.zero_add, List.length_cons]
        have hk' : k < cs.toList.length := by simp at hk ⊢; omega
        rw [List.take_succ_eq_append_getElem (by simpa using hk'), List.getElem_set_self, List.take_set_of_le (Nat.le_refl k)]
        rw [List.drop_set_of_lt (by omega : k < k + 1 + l.length)]
        simp [Nat.add_assoc, Nat.add_comm 1]
    have := key v.cells.toList 0 cs (by simp; omega)
    simp only [List.take_zero, List.nil_append, Nat.zero_add] at this
    rw [List.drop_eq_nil_of_le (by simp; omega), List.append_nil] at this
    rw [← this, ← Array.foldl_toList]
    simp
  simp only [Instr.buildSlice, Sem.run_bind, run_underlying ht, Result.andThen_ok, sizeOf, typeInfo, run_program, hi]
  simp only [Nat.one_mul, Sem.run_pure, Result.andThen_ok]
  rw [if_neg (by omega)]
  simp only [Sem.run_pure, Result.andThen_ok, if_neg (by omega : ¬ i.size = 0), zeroValue, typeInfo, Sem.run_bind, run_program, hi, hz]
  simp only [Instr.fill, Nat.zero_mul]
  rw [if_neg (by simp [hk])]
  simp only [Instr.fill]
  rw [hfill _ (by simp [hk])]
  simp [newRow]

theorem Ops.buildSlice1V {i : TypeInfo} {zv v : Value} (ht : P.underlying t = some (.slice e)) (hi : P.info? e = some i) (hz : i.zero = some zv) (hp : 0 < i.size) (hm : i.size ≤ 16777216) (hzc : zv.cells.size = i.size) (hS : SL I O E w) (hx : ev ρ x = v) (hk : v.cells.size = i.size)
    (h : ∀ b w' J, I.le J → J b = some (.cells v.cells e (0, 0)) → SL J O E w' → Ops P ops K rest (upd ρ d (.slice (some ⟨b, 0, none⟩) 1 1)) w') :
    Ops P ops K (Oper.mk (some d) (.buildSlice t 1 #[(0, x)]) ty pos af none :: rest) ρ w := by
  refine Ops.step rfl ?_
  unfold OpW
  have : (execOp (ev ρ) (Oper.mk (some d) (.buildSlice t 1 #[(0, x)]) ty pos af none)).run P w = .ok (.value (.slice (some ⟨w.heap.size, 0, none⟩) 1 1)) (w.alloc (.cells v.cells e)) := by
    simp [execOp, hx, run_buildSlice1 w ht hi hz hk hp hm hzc]
  rw [this]
  exact h _ _ _ (hS.alloc_pers _).1 (Ghost.put_same _ _ _) (hS.alloc_pers _).2
theorem Ops.buildSlice1A {i : TypeInfo} {zv : Value} {cs : Array Value} (ht : P.underlying t = some (.slice e)) (hi : P.info? e = some i) (hz : i.zero = some zv) (hp : 0 < i.size) (hm : i.size ≤ 16777216) (hzc : zv.cells.size = i.size) (hS : SL I O E w) (hx : ev ρ x = .agg cs) (hk : cs.size = i.size)
    (h : ∀ b w' J, I.le J → J b = some (.cells cs e (0, 0)) → SL J O E w' → Ops P ops K rest (upd ρ d (.slice (some ⟨b, 0, none⟩) 1 1)) w') :
    Ops P ops K (Oper.mk (some d) (.buildSlice t 1 #[(0, x)]) ty pos af none :: rest) ρ w := Ops.buildSlice1V ht hi hz hp hm hzc hS hx hk h
theorem Ops.buildSlice11 {i : TypeInfo} {zv v : Value} (ht : P.underlying t = some (.slice e)) (hi : P.info? e = some i) (hz : i.zero = some zv) (hp : 0 < i.size) (hm : i.size ≤ 16777216) (hzc : zv.cells.size = i.size) (hS : SL I O E w) (hx : ev ρ x = v) (hk : i.size = 1) (hv : v.oneCell' = true)
    (h : ∀ b w' J, I.le J → J b = some (.cells #[v] e (0, 0)) → SL J O E w' → Ops P ops K rest (upd ρ d (.slice (some ⟨b, 0, none⟩) 1 1)) w') :
    Ops P ops K (Oper.mk (some d) (.buildSlice t 1 #[(0, x)]) ty pos af none :: rest) ρ w := by
  have hvc : v.cells = #[v] := by cases v <;> first | rfl | (simp [Value.oneCell'] at hv)
  exact Ops.buildSlice1V ht hi hz hp hm hzc hS hx (by rw [hvc, hk]; rfl) (by rw [hvc]; exact h)

theorem Ops.buildSlice1I {i : TypeInfo} {zv : Value} {kk : IntKind} {a0 : Int} (ht : P.underlying t = some (.slice e)) (hi : P.info? e = some i) (hz : i.zero = some zv) (hp : 0 < i.size) (hm : i.size ≤ 16777216) (hzc : zv.cells.size = i.size) (hS : SL I O E w) (hx : ev ρ x = .int kk a0) (hk : i.size = 1)
    (h : ∀ b w' J, I.le J → J b = some (.cells #[.int kk a0] e (0, 0)) → SL J O E w' → Ops P ops K rest (upd ρ d (.slice (some ⟨b, 0, none⟩) 1 1)) w') :
    Ops P ops K (Oper.mk (some d) (.buildSlice t 1 #[(0, x)]) ty pos af none :: rest) ρ w := Ops.buildSlice11 ht hi hz hp hm hzc hS hx hk rfl h
theorem Ops.boxPI {kk : IntKind} {a0 : Int} (hS : SL I O E w) (hx : ev ρ x = .int kk a0) (h : ∀ b w' J, I.le J → J b = some (.cells #[.int kk a0] t (0, 0)) → SL J O E w' → Ops P ops K rest (upd ρ d (.pointer (some ⟨b, 0, none⟩))) w') :
    Ops P ops K (Oper.mk (some d) (.box t x) ty pos af none :: rest) ρ w := Ops.boxP1 hS hx rfl h
theorem Ops.storeAllI {kk : IntKind} {a0 : Int} {b : Nat} {old : Array Value} {T : TypeId} (hs : ∀ w, (sizeOf t).run P w = .ok 1 w) (hx : ev ρ x = .pointer (some ⟨b, 0, none⟩)) (hy : ev ρ y = .int kk a0) (hS : SL I ((b, .cells old T (0, 0)) :: O) E w) (_ : True)
    (hl : old.size = 1) (h : ∀ w', SL I ((b, .cells [.int kk a0].toArray T (0, 0)) :: O) E w' → Ops P ops K rest ρ w') :
    Ops P ops K (Oper.mk none (.store t x y) ty pos af none :: rest) ρ w := Ops.storeAll1 hs hx hy rfl hl hS h

theorem Ops.buildSlice1S {i : TypeInfo} {zv : Value} {a0 : Option Addr} {n0 c0 : Nat} (ht : P.underlying t = some (.slice e)) (hi : P.info? e = some i) (hz : i.zero = some zv) (hp : 0 < i.size) (hm : i.size ≤ 16777216) (hzc : zv.cells.size = i.size) (hS : SL I O E w) (hx : ev ρ x = .slice a0 n0 c0) (hk : i.size = 1)
    (h : ∀ b w' J, I.le J → J b = some (.cells #[.slice a0 n0 c0] e (0, 0)) → SL J O E w' → Ops P ops K rest (upd ρ d (.slice (some ⟨b, 0, none⟩) 1 1)) w') :
    Ops P ops K (Oper.mk (some d) (.buildSlice t 1 #[(0, x)]) ty pos af none :: rest) ρ w := Ops.buildSlice11 ht hi hz hp hm hzc hS hx hk rfl h
theorem Ops.boxPS {a0 : Option Addr} {n0 c0 : Nat} (hS : SL I O E w) (hx : ev ρ x = .slice a0 n0 c0) (h : ∀ b w' J, I.le J → J b = some (.cells #[.slice a0 n0 c0] t (0, 0)) → SL J O E w' → Ops P ops K rest (upd ρ d (.pointer (some ⟨b, 0, none⟩))) w') :
    Ops P ops K (Oper.mk (some d) (.box t x) ty pos af none :: rest) ρ w := Ops.boxP1 hS hx rfl h
theorem Ops.storeAllS {a0 : Option Addr} {n0 c0 : Nat} {b : Nat} {old : Array Value} {T : TypeId} (hs : ∀ w, (sizeOf t).run P w = .ok 1 w) (hx : ev ρ x = .pointer (some ⟨b, 0, none⟩)) (hy : ev ρ y = .slice a0 n0 c0) (hS : SL I ((b, .cells old T (0, 0)) :: O) E w) (_ : True)
    (hl : old.size = 1) (h : ∀ w', SL I ((b, .cells [.slice a0 n0 c0].toArray T (0, 0)) :: O) E w' → Ops P ops K rest ρ w') :
    Ops P ops K (Oper.mk none (.store t x y) ty pos af none :: rest) ρ w := Ops.storeAll1 hs hx hy rfl hl hS h

theorem Ops.buildSlice1T {i : TypeInfo} {zv : Value} {a0 : ByteArray} (ht : P.underlying t = some (.slice e)) (hi : P.info? e = some i) (hz : i.zero = some zv) (hp : 0 < i.size) (hm : i.size ≤ 16777216) (hzc : zv.cells.size = i.size) (hS : SL I O E w) (hx : ev ρ x = .string a0) (hk : i.size = 1)
    (h : ∀ b w' J, I.le J → J b = some (.cells #[.string a0] e (0, 0)) → SL J O E w' → Ops P ops K rest (upd ρ d (.slice (some ⟨b, 0, none⟩) 1 1)) w') :
    Ops P ops K (Oper.mk (some d) (.buildSlice t 1 #[(0, x)]) ty pos af none :: rest) ρ w := Ops.buildSlice11 ht hi hz hp hm hzc hS hx hk rfl h
theorem Ops.boxPT {a0 : ByteArray} (hS : SL I O E w) (hx : ev ρ x = .string a0) (h : ∀ b w' J, I.le J → J b = some (.cells #[.string a0] t (0, 0)) → SL J O E w' → Ops P ops K rest (upd ρ d (.pointer (some ⟨b, 0, none⟩))) w') :
    Ops P ops K (Oper.mk (some d) (.box t x) ty pos af none :: rest) ρ w := Ops.boxP1 hS hx rfl h
theorem Ops.storeAllT {a0 : ByteArray} {b : Nat} {old : Array Value} {T : TypeId} (hs : ∀ w, (sizeOf t).run P w = .ok 1 w) (hx : ev ρ x = .pointer (some ⟨b, 0, none⟩)) (hy : ev ρ y = .string a0) (hS : SL I ((b, .cells old T (0, 0)) :: O) E w) (_ : True)
    (hl : old.size = 1) (h : ∀ w', SL I ((b, .cells [.string a0].toArray T (0, 0)) :: O) E w' → Ops P ops K rest ρ w') :
    Ops P ops K (Oper.mk none (.store t x y) ty pos af none :: rest) ρ w := Ops.storeAll1 hs hx hy rfl hl hS h

theorem Ops.buildSlice1B {i : TypeInfo} {zv : Value} {a0 : Bool} (ht : P.underlying t = some (.slice e)) (hi : P.info? e = some i) (hz : i.zero = some zv) (hp : 0 < i.size) (hm : i.size ≤ 16777216) (hzc : zv.cells.size = i.size) (hS : SL I O E w) (hx : ev ρ x = .bool a0) (hk : i.size = 1)
    (h : ∀ b w' J, I.le J → J b = some (.cells #[.bool a0] e (0, 0)) → SL J O E w' → Ops P ops K rest (upd ρ d (.slice (some ⟨b, 0, none⟩) 1 1)) w') :
    Ops P ops K (Oper.mk (some d) (.buildSlice t 1 #[(0, x)]) ty pos af none :: rest) ρ w := Ops.buildSlice11 ht hi hz hp hm hzc hS hx hk rfl h
theorem Ops.boxPB {a0 : Bool} (hS : SL I O E w) (hx : ev ρ x = .bool a0) (h : ∀ b w' J, I.le J → J b = some (.cells #[.bool a0] t (0, 0)) → SL J O E w' → Ops P ops K rest (upd ρ d (.pointer (some ⟨b, 0, none⟩))) w') :
    Ops P ops K (Oper.mk (some d) (.box t x) ty pos af none :: rest) ρ w := Ops.boxP1 hS hx rfl h
theorem Ops.storeAllB {a0 : Bool} {b : Nat} {old : Array Value} {T : TypeId} (hs : ∀ w, (sizeOf t).run P w = .ok 1 w) (hx : ev ρ x = .pointer (some ⟨b, 0, none⟩)) (hy : ev ρ y = .bool a0) (hS : SL I ((b, .cells old T (0, 0)) :: O) E w) (_ : True)
    (hl : old.size = 1) (h : ∀ w', SL I ((b, .cells [.bool a0].toArray T (0, 0)) :: O) E w' → Ops P ops K rest ρ w') :
    Ops P ops K (Oper.mk none (.store t x y) ty pos af none :: rest) ρ w := Ops.storeAll1 hs hx hy rfl hl hS h

theorem Ops.buildSlice1P {i : TypeInfo} {zv : Value} {a0 : Option Addr} (ht : P.underlying t = some (.slice e)) (hi : P.info? e = some i) (hz : i.zero = some zv) (hp : 0 < i.size) (hm : i.size ≤ 16777216) (hzc : zv.cells.size = i.size) (hS : SL I O E w) (hx : ev ρ x = .pointer a0) (hk : i.size = 1)
    (h : ∀ b w' J, I.le J → J b = some (.cells #[.pointer a0] e (0, 0)) → SL J O E w' → Ops P ops K rest (upd ρ d (.slice (some ⟨b, 0, none⟩) 1 1)) w') :
    Ops P ops K (Oper.mk (some d) (.buildSlice t 1 #[(0, x)]) ty pos af none :: rest) ρ w := Ops.buildSlice11 ht hi hz hp hm hzc hS hx hk rfl h
theorem Ops.boxPP {a0 : Option Addr} (hS : SL I O E w) (hx : ev ρ x = .pointer a0) (h : ∀ b w' J, I.le J → J b = some (.cells #[.pointer a0] t (0, 0)) → SL J O E w' → Ops P ops K rest (upd ρ d (.pointer (some ⟨b, 0, none⟩))) w') :
    Ops P ops K (Oper.mk (some d) (.box t x) ty pos af none :: rest) ρ w := Ops.boxP1 hS hx rfl h
theorem Ops.storeAllP {a0 : Option Addr} {b : Nat} {old : Array Value} {T : TypeId} (hs : ∀ w, (sizeOf t).run P w = .ok 1 w) (hx : ev ρ x = .pointer (some ⟨b, 0, none⟩)) (hy : ev ρ y = .pointer a0) (hS : SL I ((b, .cells old T (0, 0)) :: O) E w) (_ : True)
    (hl : old.size = 1) (h : ∀ w', SL I ((b, .cells [.pointer a0].toArray T (0, 0)) :: O) E w' → Ops P ops K rest ρ w') :
    Ops P ops K (Oper.mk none (.store t x y) ty pos af none :: rest) ρ w := Ops.storeAll1 hs hx hy rfl hl hS h

theorem Ops.buildSlice1M {i : TypeInfo} {zv : Value} {a0 : Option Nat} (ht : P.underlying t = some (.slice e)) (hi : P.info? e = some i) (hz : i.zero = some zv) (hp : 0 < i.size) (hm : i.size ≤ 16777216) (hzc : zv.cells.size = i.size) (hS : SL I O E w) (hx : ev ρ x = .map a0) (hk : i.size = 1)
    (h : ∀ b w' J, I.le J → J b = some (.cells #[.map a0] e (0, 0)) → SL J O E w' → Ops P ops K rest (upd ρ d (.slice (some ⟨b, 0, none⟩) 1 1)) w') :
    Ops P ops K (Oper.mk (some d) (.buildSlice t 1 #[(0, x)]) ty pos af none :: rest) ρ w := Ops.buildSlice11 ht hi hz hp hm hzc hS hx hk rfl h
theorem Ops.boxPM {a0 : Option Nat} (hS : SL I O E w) (hx : ev ρ x = .map a0) (h : ∀ b w' J, I.le J → J b = some (.cells #[.map a0] t (0, 0)) → SL J O E w' → Ops P ops K rest (upd ρ d (.pointer (some ⟨b, 0, none⟩))) w') :
    Ops P ops K (Oper.mk (some d) (.box t x) ty pos af none :: rest) ρ w := Ops.boxP1 hS hx rfl h
theorem Ops.storeAllM {a0 : Option Nat} {b : Nat} {old : Array Value} {T : TypeId} (hs : ∀ w, (sizeOf t).run P w = .ok 1 w) (hx : ev ρ x = .pointer (some ⟨b, 0, none⟩)) (hy : ev ρ y = .map a0) (hS : SL I ((b, .cells old T (0, 0)) :: O) E w) (_ : True)
    (hl : old.size = 1) (h : ∀ w', SL I ((b, .cells [.map a0].toArray T (0, 0)) :: O) E w' → Ops P ops K rest ρ w') :
    Ops P ops K (Oper.mk none (.store t x y) ty pos af none :: rest) ρ w := Ops.storeAll1 hs hx hy rfl hl hS h

theorem Ops.buildSlice0 {i : TypeInfo} (ht : P.underlying t = some (.slice e)) (hi : P.info? e = some i) (hS : SL I O E w) (h : ∀ b w', SL I ([(b, .cells [].toArray e (0, 0))] ++ O) E w' → Ops P ops K rest (upd ρ d (.slice (some ⟨b, 0, none⟩) 0 0)) w') :
    Ops P ops K (Oper.mk (some d) (.buildSlice t 0 #[]) ty pos af none :: rest) ρ w := by
  refine Ops.step rfl ?_
  unfold OpW
  have : (execOp (ev ρ) (Oper.mk (some d) (.buildSlice t 0 #[]) ty pos af none)).run P w = .ok (.value (.slice (some ⟨w.heap.size, 0, none⟩) 0 0)) (w.alloc (.cells #[] e)) := by
    simp [execOp, Instr.buildSlice, run_underlying ht, sizeOf, typeInfo, hi, Instr.fill, newRow]
    congr 2
    exact Array.eq_empty_of_size_eq_zero (by simp)
  rw [this]
  exact h _ _ (hS.alloc _)
end

theorem madeCells_one (z : Value) (m : Nat) : madeCells #[z] m = (List.replicate m z).toArray := by
  apply Array.ext
  · simp [madeCells]
  · intro i h1 h2
    simp [madeCells, Nat.mod_one]

section
variable {P : Program} {ops : Array Oper} {K : Env → World → Prop} {ρ : Env} {w : World} {rest : List Oper}
variable {d ty : Nat} {pos : String} {af : Array Edge} {x y : Operand} {t e : TypeId}
variable {I : Ghost} {O : List (Nat × Obj)} {E : World}
theorem Ops.make1 {i : TypeInfo} {zv z1 : Value} {m : Nat} {k1 k2 : IntKind} {l l' : Int} (ht : P.underlying t = some (.slice e)) (hi : P.info? e = some i) (hz : i.zero = some zv) (hzc : zv.cells = #[z1]) (hk : i.size = 1) (hx : ev ρ x = .int k1 l) (hy : ev ρ y = .int k2 l')
    (hl : l = (m : Int)) (hl' : l' = (m : Int)) (hb : (i.bytes : Int) * (m : Int) ≤ 281474976710656) (hm : m ≤ 281474976710656) (hS : SL I O E w)
    (h : ∀ b w', SL I ([(b, .cells (List.replicate m z1).toArray e (0, 0))] ++ O) E w' → Ops P ops K rest (upd ρ d (.slice (some ⟨b, 0, none⟩) m m)) w') :
    Ops P ops K (Oper.mk (some d) (.makeSlice t x y) ty pos af none :: rest) ρ w := by
  refine Ops.step rfl ?_
  unfold OpW
  subst hl hl'
  have hrun := run_make (P := P) w t e i zv ht hi hz k1 k2 m m (by omega) (by omega) hb (by omega)
  rw [hzc, hk, Nat.mul_one, Int.toNat_natCast, madeCells_one] at hrun
  have : (execOp (ev ρ) (Oper.mk (some d) (.makeSlice t x y) ty pos af none)).run P w = .ok (.value (.slice (some ⟨w.heap.size, 0, none⟩) m m)) (w.alloc (.cells (List.replicate m z1).toArray e)) := by
    simp [execOp, hx, hy, hrun]
  rw [this]
  exact h _ _ (hS.alloc _)
end

/-! ### Slices that are only read -/

abbrev Own := List (Nat × Obj)

theorem At.mono' {I J : Ghost} {O O' : Own} {b i : Nat} {v : Value} (h : At I O b i v) (hl : I.le J) (hO : ∀ x ∈ O, x ∈ O') : At J O' b i v := by
  rcases h with ⟨c, T, f, hb, hv⟩ | ⟨c, T, f, hm, hv⟩
  · exact .inl ⟨c, T, f, hl _ _ hb, hv⟩
  · exact .inr ⟨c, T, f, hO _ hm, hv⟩

/-- The slice `a`, `n` long, with elements of `k` cells each, tells the list `xs`, each element by `R`. -/
def Sl {α : Type} (k : Nat) (R : Ghost → Own → List Value → α → Prop) (I : Ghost) (O : Own) (a : Option Addr) (n cap : Nat) (xs : List α) : Prop :=
  n = xs.length ∧ n ≤ cap ∧ (a = none → cap = 0) ∧ ∀ (j : Nat) (x : α), xs[j]? = some x → ∃ b off l, a = some ⟨b, off, none⟩ ∧ l.length = k ∧ R I O l x ∧ ∀ i u, l[i]? = some u → At I O b (off + j * k + i) u

def All2 {α β : Type} (R : α → β → Prop) (ls : List α) (xs : List β) : Prop := ls.length = xs.length ∧ ∀ (j : Nat) l x, ls[j]? = some l → xs[j]? = some x → R l x

/-- What stays told when more is known, and more is owned. -/
def Stays {α : Type} (R : Ghost → Own → List Value → α → Prop) : Prop := ∀ I J O O' l x, I.le J → (∀ x ∈ O, x ∈ O') → R I O l x → R J O' l x

theorem Sl.mono' {α : Type} {k : Nat} {R : Ghost → Own → List Value → α → Prop} (hR : Stays R) {I J : Ghost} {O O' : Own} {a : Option Addr} {n cap : Nat} {xs : List α} (hl : I.le J) (hO : ∀ x ∈ O, x ∈ O') (h : Sl k R I O a n cap xs) : Sl k R J O' a n cap xs :=
  ⟨h.1, h.2.1, h.2.2.1, fun j x hj => let ⟨b, off, l, h1, h2, h3, h4⟩ := h.2.2.2 j x hj; ⟨b, off, l, h1, h2, hR _ _ _ _ _ _ hl hO h3, fun i u hi => (h4 i u hi).mono' hl hO⟩⟩

section
variable {P : Program} {ops : Array Oper} {K : Env → World → Prop} {ρ : Env} {w : World} {rest : List Oper}
variable {d d2 ty ty2 : Nat} {pos pos2 : String} {af af2 : Array Edge} {x y z : Operand} {t u e : TypeId}
variable {I : Ghost} {O A : Own} {E : World} {α : Type} {R : Ghost → Own → List Value → α → Prop} {xs : List α} {v : α}

theorem At.weak {b i : Nat} {v : Value} (h : At I [] b i v) (O : Own) : At I O b i v := h.mono (Ghost.le.refl I) O

theorem Ops.elemA {a : Option Addr} {n c j k : Nat} {i : Int} (ht : P.underlying t = some (.slice e)) (hs : ∀ w, (sizeOf e).run P w = .ok k w) (ha : ∀ w, (isAgg e).run P w = .ok true w) (hS : SL I O E w) (hx : ev ρ x = .slice a n c)
    (hy : ev ρ y = .int .i64 i) (hi : i = (j : Int)) (hj : xs[j]? = some v) (hR : Sl k R I O a n c xs) (h : ∀ p l, l.length = k → R I O l v → Ops P ops K rest (upd (upd ρ d p) d2 (.agg l.toArray)) w) :
    Ops P ops K (Oper.mk (some d) (.indexAddr t x y) ty pos af none :: Oper.mk (some d2) (.load e (.tmp d)) ty2 pos2 af2 none :: rest) ρ w := by
  obtain ⟨hn, _, _, hel⟩ := hR
  obtain ⟨b, off, l, rfl, hl, hr, hat⟩ := hel j v hj
  have hlt : j < n := by rw [hn]; exact (List.getElem?_eq_some_iff.1 hj).1
  refine Ops.idx ht hs hx hy hi hlt ?_
  exact Ops.loadA ha (by rw [hl]; exact hs) hS (by simp [ev, upd_same]) (fun i u hu => hat i u hu) (h _ l hl hr)

theorem Ops.elem1 {a : Option Addr} {n c j : Nat} {i : Int} (ht : P.underlying t = some (.slice e)) (hs : ∀ w, (sizeOf e).run P w = .ok 1 w) (ha : ∀ w, (isAgg e).run P w = .ok false w) (hS : SL I O E w) (hx : ev ρ x = .slice a n c)
    (hy : ev ρ y = .int .i64 i) (hi : i = (j : Int)) (hj : xs[j]? = some v) (hR : Sl 1 R I O a n c xs) (h : ∀ p u (_ : True), R I O [u] v → Ops P ops K rest (upd (upd ρ d p) d2 u) w) :
    Ops P ops K (Oper.mk (some d) (.indexAddr t x y) ty pos af none :: Oper.mk (some d2) (.load e (.tmp d)) ty2 pos2 af2 none :: rest) ρ w := by
  obtain ⟨hn, _, _, hel⟩ := hR
  obtain ⟨b, off, l, rfl, hl, hr, hat⟩ := hel j v hj
  have hlt : j < n := by rw [hn]; exact (List.getElem?_eq_some_iff.1 hj).1
  obtain ⟨u, rfl⟩ : ∃ u, l = [u] := by
    match l, hl with
    | [u], _ => exact ⟨u, rfl⟩
  refine Ops.idx ht hs hx hy hi hlt ?_
  exact Ops.load1 ha hS (by simp [ev, upd_same]) (hat 0 u rfl) (h _ u trivial hr)

/-- What a slice of one's own tells. -/
theorem OwnS.sl {a : Option Addr} {k n cap : Nat} {ls : List (List Value)} {xs : List α} (hA : OwnS k e a n cap ls.flatten A) (hk : ∀ l ∈ ls, l.length = k) (hn : n = ls.length) (hO : ∀ x ∈ A, x ∈ O) (hr : All2 (R I O) ls xs) : Sl k R I O a n cap xs := by
  have hlen := hr.1
  refine ⟨by omega, hA.2.1, fun h => ?_, fun j x hj => ?_⟩
  · subst h
    rcases hA.2.2 with ⟨_, h, _⟩ | ⟨b, junk, h, _⟩
    · exact h
    · cases h
  · have hjx := (List.getElem?_eq_some_iff.1 hj).1
    have hjl : j < ls.length := by omega
    rcases hA.2.2 with ⟨_, h, _⟩ | ⟨b, junk, rfl, rfl, _⟩
    · have := hA.2.1; omega
    · refine ⟨b, 0, ls[j], rfl, hk _ (List.getElem_mem _), ?_, fun i u hu => .inr ⟨_, _, _, hO _ (List.mem_singleton.2 rfl), ?_⟩⟩
      · exact hr.2 j _ _ (List.getElem?_eq_getElem hjl) hj
      · have hi := (List.getElem?_eq_some_iff.1 hu).1
        rw [hk _ (List.getElem_mem _)] at hi
        rw [List.getElem?_toArray, Nat.zero_add]
        have key : ∀ (ls : List (List Value)) (j : Nat) (hj : j < ls.length), (∀ l ∈ ls, l.length = k) → ls.flatten[j * k + i]? = ls[j][i]? := by
          intro ls
          induction ls with
          | nil => intro j hj; simp at hj
          | cons l ls ih =>
            intro j hj hk
            have hl := hk l (by simp)
            cases j with
            | zero => simp only [List.flatten_cons, Nat.zero_mul, Nat.zero_add, List.getElem_cons_zero]; rw [List.getElem?_append_left (by omega)]
            | succ j =>
              simp only [List.flatten_cons, List.getElem_cons_succ]
              rw [List.getElem?_append_right (by rw [hl, Nat.add_mul]; omega), hl]
              have : (j + 1) * k + i - k = j * k + i := by rw [Nat.add_mul]; omega
              rw [this]
              exact ih j (by simpa using hj) (fun l hl => hk l (by simp [hl]))
        have := key ls j hjl hk
        have hb : j * k + i < ls.flatten.length := by
          have := (List.getElem?_eq_some_iff.1 (this.trans hu)).1
          exact this
        rw [List.getElem?_append_left hb, this, hu]
end

/-! ### Plain things -/
def RInt (_ : Ghost) (_ : Own) (l : List Value) (x : Int) : Prop := l = [.int .i64 x]
theorem RInt.stays : Stays RInt := fun _ _ _ _ _ _ _ _ h => h
abbrev Ints := Sl 1 RInt
def RVal (_ : Ghost) (_ : Own) (l : List Value) (v : Value) : Prop := l = [v]
/-- A slice of numbers as an element. -/
def RInts (I : Ghost) (O : Own) (l : List Value) (xs : List Int) : Prop := ∃ a n c, l = [.slice a n c] ∧ Ints I O a n c xs
theorem RInts.stays : Stays RInts := fun _ _ _ _ _ _ h h' ⟨a, n, c, e, hx⟩ => ⟨a, n, c, e, Sl.mono' RInt.stays h h' hx⟩


theorem SL.swap {I : Ghost} {A B O : Own} {E w : World} (h : SL I (A ++ (B ++ O)) E w) : SL I (B ++ (A ++ O)) E w := h.perm (by
  rw [← List.append_assoc, ← List.append_assoc]
  exact List.perm_append_comm.append_right O)
theorem SL.assoc {I : Ghost} {A B O : Own} {E w : World} (h : SL I ((A ++ B) ++ O) E w) : SL I (A ++ (B ++ O)) E w := by rwa [List.append_assoc] at h
theorem SL.assoc' {I : Ghost} {A B O : Own} {E w : World} (h : SL I (A ++ (B ++ O)) E w) : SL I ((A ++ B) ++ O) E w := by rwa [List.append_assoc]

theorem SL.swap2 {I : Ghost} {A B C O : Own} {E w : World} (h : SL I (A ++ (B ++ (C ++ O))) E w) : SL I (A ++ (C ++ (B ++ O))) E w := h.perm (by
  refine List.Perm.append_left A ?_
  rw [← List.append_assoc, ← List.append_assoc]
  exact List.perm_append_comm.append_right O)
theorem SL.swap3 {I : Ghost} {A B C D O : Own} {E w : World} (h : SL I (A ++ (B ++ (C ++ (D ++ O)))) E w) : SL I (A ++ (B ++ (D ++ (C ++ O)))) E w := h.perm (by
  refine List.Perm.append_left A (List.Perm.append_left B ?_)
  rw [← List.append_assoc, ← List.append_assoc]
  exact List.perm_append_comm.append_right O)
theorem Src.one {I : Ghost} {O : Own} {b : Nat} {v : Value} {T : TypeId} {f : Nat × Nat} (hb : I b = some (.cells #[v] T f)) (hv : v.oneCell' = true) : Src I O 1 (some ⟨b, 0, none⟩) 1 [v] :=
  ⟨rfl, by simpa using hv, .inr ⟨_, rfl, fun j u hj => ⟨b, 0, rfl, .inl ⟨_, _, _, hb, by rw [Nat.zero_add]; simpa using hj⟩⟩⟩⟩
theorem Src.oneA {I : Ghost} {O : Own} {b k : Nat} {cs : List Value} {T : TypeId} {f : Nat × Nat} (hb : I b = some (.cells cs.toArray T f)) (hv : ∀ u ∈ cs, u.oneCell' = true) (hk : cs.length = 1 * k) : Src I O k (some ⟨b, 0, none⟩) 1 cs :=
  ⟨hk, hv, .inr ⟨_, rfl, fun j u hj => ⟨b, 0, rfl, .inl ⟨_, _, _, hb, by rw [Nat.zero_add, List.getElem?_toArray]; exact hj⟩⟩⟩⟩
/-- What is read of a slice whose elements are one cell each. -/
theorem Ints.src {I : Ghost} {O : Own} {a : Option Addr} {n c : Nat} {xs : List Int} (h : Ints I O a n c xs) : Src I O 1 a n (xs.map (Value.int .i64)) := by
  obtain ⟨hn, hc, hnil, hel⟩ := h
  refine ⟨by simp [hn], by simp [Value.oneCell'], ?_⟩
  cases a with
  | none => exact .inl ⟨rfl, by have := hnil rfl; omega⟩
  | some p =>
    refine .inr ⟨p, rfl, fun j u hj => ?_⟩
    rw [List.getElem?_map] at hj
    obtain ⟨y, hy, rfl⟩ := Option.map_eq_some_iff.1 hj
    obtain ⟨b, off, l, e, _, hr, hat⟩ := hel j y hy
    cases e
    rw [hr] at hat
    have := hat 0 _ rfl
    exact ⟨b, off, rfl, by simpa using this⟩

end Go.Proofs.YtlfhoiakmbcnlaaDoor
