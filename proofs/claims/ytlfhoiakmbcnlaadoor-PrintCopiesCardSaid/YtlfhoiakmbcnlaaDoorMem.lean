/- Memory: what is known of it for ever (`I`), what is owned now (`O`), what never changes (`E`). No conditions. -/
import Derived.Test.YtlfhoiakmbcnlaaDoorCore
namespace Go.Proofs.YtlfhoiakmbcnlaaDoor

abbrev Ghost := Nat → Option Obj
def Ghost.le (I J : Ghost) : Prop := ∀ b o, I b = some o → J b = some o
theorem Ghost.le.refl (I : Ghost) : I.le I := fun _ _ h => h
theorem Ghost.le.trans {I J K : Ghost} (h : I.le J) (k : J.le K) : I.le K := fun b o hb => k b o (h b o hb)
def Ghost.put (I : Ghost) (b : Nat) (o : Obj) : Ghost := fun x => if x = b then some o else I x
theorem Ghost.put_same (I : Ghost) (b : Nat) (o : Obj) : I.put b o b = some o := by simp [Ghost.put]
theorem Ghost.le_put {I : Ghost} {b : Nat} {o : Obj} (h : I b = none) : I.le (I.put b o) := fun x o' hx => by
  unfold Ghost.put; split
  · rename_i e; subst e; rw [h] at hx; cases hx
  · exact hx

/-- Cells that may be written. -/
def flatO : Obj → Prop
  | .cells _ _ f => f = (0, 0)
  | _ => True

structure SL (I : Ghost) (O : List (Nat × Obj)) (E : World) (w : World) : Prop where
  os : w.os = E.os
  output : w.output = E.output
  tape : w.tape = E.tape
  pers : ∀ b o, I b = some o → w.heap[b]? = some o
  own : ∀ x ∈ O, w.heap[x.1]? = some x.2
  nodup : (O.map (·.1)).Nodup
  apart : ∀ x ∈ O, I x.1 = none
  base : ∀ b o, E.heap[b]? = some o → I b = some o
  flat : ∀ b o, I b = some o → E.heap[b]? = none → flatO o
  oflat : ∀ x ∈ O, flatO x.2

section
variable {I J : Ghost} {O : List (Nat × Obj)} {E w : World}

theorem SL.drew (h : SL I O E w) : SL I O E w.drew := ⟨h.os, h.output, h.tape, h.pers, h.own, h.nodup, h.apart, h.base, h.flat, h.oflat⟩

theorem SL.drawn (h : SL I O E w) (n : Nat) : SL I O E { w with drawn := n } := ⟨h.os, h.output, h.tape, h.pers, h.own, h.nodup, h.apart, h.base, h.flat, h.oflat⟩

theorem lt_of_some {w : World} {b : Nat} {o : Obj} (h : w.heap[b]? = some o) : b < w.heap.size := by
  by_cases hb : b < w.heap.size
  · exact hb
  · simp [Array.getElem?_eq_none (by omega : w.heap.size ≤ b)] at h

theorem alloc_old {w : World} {o o' : Obj} {b : Nat} (h : w.heap[b]? = some o) : (w.alloc o').heap[b]? = some o := by
  rw [Go.RowKit.Below.heap_alloc _ _ _ (lt_of_some h)]; exact h

theorem SL.fresh (h : SL I O E w) : I w.heap.size = none := by
  cases hI : I w.heap.size with
  | none => rfl
  | some o => have := lt_of_some (h.pers _ _ hI); omega

theorem SL.alloc (h : SL I O E w) (o : Obj) (ho : flatO o := by first | exact rfl | trivial) : SL I ((w.heap.size, o) :: O) E (w.alloc o) := by
  refine ⟨h.os, h.output, h.tape, fun b o' hb => alloc_old (h.pers b o' hb), ?_, ?_, ?_, h.base, h.flat, fun x hx => ?_⟩
  · intro x hx
    rcases List.mem_cons.1 hx with rfl | hx
    · show (w.heap.push o)[w.heap.size]? = some o
      simp
    · exact alloc_old (h.own x hx)
  · simp only [List.map_cons, List.nodup_cons]
    refine ⟨fun hm => ?_, h.nodup⟩
    obtain ⟨x, hx, e⟩ := List.mem_map.1 hm
    have := lt_of_some (h.own x hx)
    omega
  · intro x hx
    rcases List.mem_cons.1 hx with rfl | hx
    · exact h.fresh
    · exact h.apart x hx
  · rcases List.mem_cons.1 hx with rfl | hx
    · exact ho
    · exact h.oflat x hx

/-- What is owned may be known for ever from now on. -/
theorem SL.freeze {b : Nat} {o : Obj} (h : SL I ((b, o) :: O) E w) : I.le (I.put b o) ∧ SL (I.put b o) O E w := by
  have hn := h.nodup
  simp only [List.map_cons, List.nodup_cons] at hn
  refine ⟨Ghost.le_put (h.apart (b, o) (by simp)), h.os, h.output, h.tape, ?_, fun x hx => h.own x (List.mem_cons_of_mem _ hx), hn.2, ?_, fun b' o' hb => Ghost.le_put (h.apart (b, o) (by simp)) b' o' (h.base b' o' hb), ?_, fun x hx => h.oflat x (List.mem_cons_of_mem _ hx)⟩
  · intro b' o' hb
    unfold Ghost.put at hb
    split at hb
    · rename_i e; subst e; cases hb; exact h.own (b', o) (by simp)
    · exact h.pers _ _ hb
  · intro x hx
    unfold Ghost.put
    split
    · rename_i e; exact absurd (e ▸ List.mem_map.2 ⟨x, hx, rfl⟩) hn.1
    · exact h.apart x (List.mem_cons_of_mem _ hx)
  · intro b' o' hb he
    unfold Ghost.put at hb
    split at hb
    · cases hb; exact h.oflat (b, o) (by simp)
    · exact h.flat b' o' hb he

theorem SL.alloc_pers (h : SL I O E w) (o : Obj) (ho : flatO o := by first | exact rfl | trivial) : I.le (I.put w.heap.size o) ∧ SL (I.put w.heap.size o) O E (w.alloc o) := (h.alloc o ho).freeze

theorem SL.perm {O' : List (Nat × Obj)} (h : SL I O E w) (hp : O'.Perm O) : SL I O' E w :=
  ⟨h.os, h.output, h.tape, h.pers, fun x hx => h.own x (hp.mem_iff.1 hx), (hp.map _).nodup_iff.2 h.nodup, fun x hx => h.apart x (hp.mem_iff.1 hx), h.base, h.flat, fun x hx => h.oflat x (hp.mem_iff.1 hx)⟩

theorem SL.sub {O' : List (Nat × Obj)} (h : SL I O E w) (hp : O'.Sublist O) : SL I O' E w :=
  ⟨h.os, h.output, h.tape, h.pers, fun x hx => h.own x (hp.subset hx), (hp.map _).nodup h.nodup, fun x hx => h.apart x (hp.subset hx), h.base, h.flat, fun x hx => h.oflat x (hp.subset hx)⟩

theorem SL.drop {x : Nat × Obj} (h : SL I (x :: O) E w) : SL I O E w := h.sub (List.sublist_cons_self _ _)
theorem SL.dropAll {A : List (Nat × Obj)} (h : SL I (A ++ O) E w) : SL I O E w := h.sub (List.sublist_append_right _ _)

/-- The world is turned at one owned block. -/
theorem SL.turn {b : Nat} {o o' : Obj} {w' : World} (h : SL I ((b, o) :: O) E w) (h1 : w'.os = w.os) (h2 : w'.output = w.output) (h3 : w'.tape = w.tape)
    (h4 : w'.heap[b]? = some o') (h5 : ∀ k, k ≠ b → w'.heap[k]? = w.heap[k]?) (h6 : flatO o' := by first | exact rfl | trivial) : SL I ((b, o') :: O) E w' := by
  have hn := h.nodup
  simp only [List.map_cons, List.nodup_cons] at hn
  refine ⟨h1.trans h.os, h2.trans h.output, h3.trans h.tape, ?_, ?_, by simpa using h.nodup, ?_, h.base, h.flat, fun x hx => ?_⟩
  · intro k ok hk
    rw [h5 k (fun e => ?_)]
    · exact h.pers k ok hk
    · subst e; rw [h.apart (k, o) (by simp)] at hk; cases hk
  · intro x hx
    rcases List.mem_cons.1 hx with rfl | hx
    · exact h4
    · rw [h5 x.1 (fun e => hn.1 (e ▸ List.mem_map.2 ⟨x, hx, rfl⟩))]
      exact h.own x (List.mem_cons_of_mem _ hx)
  · intro x hx
    rcases List.mem_cons.1 hx with rfl | hx
    · exact h.apart (b, o) (by simp)
    · exact h.apart x (List.mem_cons_of_mem _ hx)
  · rcases List.mem_cons.1 hx with rfl | hx
    · exact h6
    · exact h.oflat x (List.mem_cons_of_mem _ hx)

theorem SL.set {b i : Nat} {c : Array Value} {T : TypeId} {v : Value} (h : SL I ((b, .cells c T (0, 0)) :: O) E w) :
    SL I ((b, .cells (c.setIfInBounds i v) T (0, 0)) :: O) E (w.setCell ⟨b, i, none⟩ v) := by
  have hb := h.own (b, .cells c T (0, 0)) (by simp)
  exact h.turn rfl rfl rfl (by simp only at hb; simp [World.setCell, Array.getElem?_modify, hb]) (fun k hk => Go.RowKit.Below.heap_setCell _ _ _ _ (by simpa using hk))

theorem SL.cell_own {b i : Nat} {c : Array Value} {T : TypeId} {f : Nat × Nat} (h : SL I ((b, .cells c T f) :: O) E w) : w.cell? ⟨b, i, none⟩ = c[i]? := by
  have := h.own (b, .cells c T f) (by simp)
  simp only at this
  simp [World.cell?, this]

theorem SL.cell_pers {b i : Nat} {c : Array Value} {T : TypeId} {f : Nat × Nat} (h : SL I O E w) (hb : I b = some (.cells c T f)) : w.cell? ⟨b, i, none⟩ = c[i]? := by
  simp [World.cell?, h.pers _ _ hb]

/-- The cell at a place, whoever holds it. -/
def At (I : Ghost) (O : List (Nat × Obj)) (b i : Nat) (v : Value) : Prop := (∃ c T f, I b = some (.cells c T f) ∧ c[i]? = some v) ∨ ∃ c T f, (b, Obj.cells c T f) ∈ O ∧ c[i]? = some v

theorem SL.at_ (h : SL I O E w) {b i : Nat} {v : Value} (ha : At I O b i v) : w.cell? ⟨b, i, none⟩ = some v := by
  rcases ha with ⟨c, T, f, hb, hv⟩ | ⟨c, T, f, hm, hv⟩
  · rw [h.cell_pers hb, hv]
  · have := h.own _ hm; simp only at this; simp [World.cell?, this, hv]

theorem At.mono {b i : Nat} {v : Value} (h : At I [] b i v) (hl : I.le J) (O : List (Nat × Obj)) : At J O b i v := by
  rcases h with ⟨c, T, f, hb, hv⟩ | ⟨c, T, f, hm, hv⟩
  · exact .inl ⟨c, T, f, hl _ _ hb, hv⟩
  · cases hm

end

theorem addr_add (b o n : Nat) : (⟨b, o, none⟩ : Addr).add n = ⟨b, o + n, none⟩ := by
  unfold Addr.add; split <;> simp_all

/-- What a function owes: it returns; what was known is known; what was owned is as it was. -/
def Post (I : Ghost) (O : List (Nat × Obj)) (E : World) (R : Ghost → Value → Prop) (v : Value) (w : World) : Prop := ∃ J, I.le J ∧ SL J O E w ∧ R J v

end Go.Proofs.YtlfhoiakmbcnlaaDoor
