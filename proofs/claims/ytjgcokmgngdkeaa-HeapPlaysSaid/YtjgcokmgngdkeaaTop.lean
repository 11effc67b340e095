/- The law HeapPlays answers true for every input, and its input reads behind the call as it did: the statement HeapPlaysSaid. No condition. -/
import Derived.Test.YtjgcokmgngdkeaaRows
import Derived.Test.YtjgcokmgngdkeaaLaw
import Derived.ProofKit
import Derived.OpenShut
import Derived.Deep.Matrix
namespace Go.Proofs.Ytjgcokmgngdkeaa
open Go.ChangeShapes Go.WideShapes Go.ChangeAt Go.RowKit Go.Deep

/-- All that is there is known. -/
def full (W : World) : Ghost := fun b => W.heap[b]?
theorem full_sl (W : World) : SL (full W) [] W W := ⟨rfl, rfl, rfl, fun _ _ h => h, by simp, by simp, by simp⟩
theorem full_below {W w : World} {J : Ghost} (hle : (full W).le J) (hS : SL J [] W w) : Below W.heap.size W w := by
  have key : ∀ k, k < W.heap.size → w.heap[k]? = W.heap[k]? := fun k hk => by
    have h1 : W.heap[k]? = some W.heap[k] := Array.getElem?_eq_getElem hk
    rw [h1]
    exact hS.pers _ _ (hle k _ h1)
  refine ⟨hS.os, hS.tape, hS.output, ?_, key⟩
  rcases Nat.lt_or_ge w.heap.size W.heap.size with h | h
  · have := key w.heap.size h
    rw [Array.getElem?_eq_none (Nat.le_refl _), Array.getElem?_eq_getElem h] at this
    cases this
  · exact h

theorem cell_plain {W : World} {p : Addr} {v : Value} (h : W.cell? p = some v) : p = ⟨p.block, p.off, none⟩ ∧ At (full W) [] p.block p.off v := by
  unfold World.cell? at h
  split at h
  · rename_i c t f hb
    split at h
    · cases h
    · rename_i hs
      have : p.spot = none := by simpa using hs
      obtain ⟨b, o, s⟩ := p
      simp only at this
      subst this
      exact ⟨rfl, .inl ⟨c, t, f, hb, h⟩⟩
  · cases h

/-- A slice out of its cells. -/
theorem sl_of {α : Type} {W : World} {k : Nat} {R : Ghost → Own → List Value → α → Prop} {a : Addr} {len cap : Nat} {xs : List α} (hk : 0 < k) (hn : len = xs.length) (hc : len ≤ cap)
    (h : ∀ (j : Nat) (x : α), xs[j]? = some x → ∃ l : List Value, l.length = k ∧ R (full W) [] l x ∧ ∀ (i : Nat) (u : Value), l[i]? = some u → W.cell? (a.add (j * k + i)) = some u) : Sl k R (full W) [] (some a) len cap xs := by
  refine ⟨hn, hc, (fun h => by cases h), fun j x hj => ?_⟩
  obtain ⟨l, h1, h2, h3⟩ := h j x hj
  have h0 : a = ⟨a.block, a.off, none⟩ := by
    have hx0 : xs[0]? = some (xs[0]'(by have := (List.getElem?_eq_some_iff.1 hj).1; omega)) := List.getElem?_eq_getElem _
    obtain ⟨l0, g1, _, g3⟩ := h 0 _ hx0
    have := g3 0 (l0[0]'(by omega)) (List.getElem?_eq_getElem _)
    rw [Nat.zero_mul, Nat.add_zero] at this
    exact (cell_plain (by simpa [Addr.add] using this)).1
  refine ⟨a.block, a.off, l, by rw [← h0], h1, h2, fun i u hu => ?_⟩
  have := h3 i u hu
  rw [h0, addr_add] at this
  have := (cell_plain this).2
  simpa [Nat.add_assoc] using this

section
variable {H : Type} {enc : TypeId × Value → H} {W : World} {held : Bool}

theorem open_rows {fuel : Nat} {v : Value} {x : DataW H × List MemPlace} (h : DataW.trod enc Try.prog W 0 (fun _ => true) held fuel 22 [v] = some x) :
    ∃ a n cap L, v = .slice a n cap ∧ Sl 1 RInts (full W) [] a n cap L := by
  rcases open_int_rows Try.underlying22 Try.underlying25 Try.underlying2 (by kernel_rfl) (by kernel_rfl) h with ⟨hc, _⟩ | ⟨a, len, cap, A, L, C, Z, hc, _, hl, _, _, hr⟩
  · cases hc
    exact ⟨none, 0, 0, [], rfl, rfl, Nat.le_refl _, fun _ => rfl, fun j x hj => by simp at hj⟩
  · cases hc
    refine ⟨some a, len, cap, (List.range len).map fun r => (Z r).take (L r), rfl, sl_of (by omega) (by simp) hl fun j x hj => ?_⟩
    rw [List.getElem?_map] at hj
    obtain ⟨r, hr1, rfl⟩ := Option.map_eq_some_iff.1 hj
    have hjr : r = j ∧ j < len := by
      have := List.getElem?_eq_some_iff.1 hr1
      obtain ⟨h1, h2⟩ := this
      simp at h1 h2
      exact ⟨h2.symm, h1⟩
    obtain ⟨rfl, hjl⟩ := hjr
    obtain ⟨g1, g2, g3, g4, _, g6, g7⟩ := hr r (by omega)
    refine ⟨[.slice (A r) (L r) (C r)], rfl, ⟨_, _, _, rfl, ?_⟩, fun i u hu => ?_⟩
    · cases hA : A r with
      | none =>
        have := g6 hA
        have h0 : L r = 0 := by omega
        rw [h0, this]
        exact ⟨by simp, Nat.le_refl _, fun _ => rfl, fun j x hj => by simp at hj⟩
      | some a' =>
        refine sl_of (by omega) (by simp; omega) g2 fun c y hy => ?_
        have hcl : c < L r := by
          have := (List.getElem?_eq_some_iff.1 hy).1
          simp at this; omega
        refine ⟨[.int .i64 y], rfl, rfl, fun i u hu => ?_⟩
        have hi : i = 0 := by
          have := (List.getElem?_eq_some_iff.1 hu).1
          simpa using this
        subst hi
        simp only [List.getElem?_cons_zero, Option.some.injEq] at hu
        subst hu
        rw [Nat.mul_one, Nat.add_zero, (g7 a' hA).2 c (by omega)]
        rw [List.getElem?_take_of_lt hcl] at hy
        simp [List.getD, hy]
    · have hi : i = 0 := by
        have := (List.getElem?_eq_some_iff.1 hu).1
        simpa using this
      subst hi
      simp only [List.getElem?_cons_zero, Option.some.injEq] at hu
      subst hu
      rw [Nat.mul_one, Nat.add_zero]
      exact g1

theorem one_of_take {cs : List Value} {o : Nat} {v : Value} (h : (cs.drop o).take 1 = [v]) : cs[o]? = some v := by
  have := congrArg (fun l => l[0]?) h
  simpa using this

theorem open_act {fuel : Nat} {cs : List Value} {x : DataW H × List MemPlace} (h : DataW.trod enc Try.prog W 0 (fun _ => true) held fuel 31 cs = some x) : ∃ y : ActD, cs = [.int .i64 y.kind, .int .i64 y.a, .int .i64 y.i, .int .i64 y.v] := by
  obtain ⟨xs, n, _, _, hl, hxl, hf⟩ := DataW.trod_struct Try.underlying31 h
  have hl4 : cs.length = 4 := hl.trans (by kernel_rfl)
  have hx4 : xs.length = 4 := hxl
  have get : ∀ (i : Nat) (f : Field) (o : Nat), Try.prog.underlying f.type = some (.int .i64) → Try.prog.cellsOf f.type = 1 → f.offset = o → i < 4 → DataW.trod enc Try.prog W 0 (fun _ => true) held n f.type (List.take (Try.prog.cellsOf f.type) (List.drop f.offset cs)) = xs[i]? → ∃ z, cs[o]? = some (.int .i64 z) := by
    intro i f o hu hc ho hi h1
    rw [hc, ho] at h1
    have hxi : xs[i]? = some (xs[i]'(by omega)) := List.getElem?_eq_getElem _
    rw [hxi] at h1
    obtain ⟨z, h2, _, _⟩ := DataW.trod_int hu h1
    exact ⟨z, one_of_take h2⟩
  obtain ⟨k, h0⟩ := get 0 _ 0 Try.underlying3 (by kernel_rfl) rfl (by omega) (hf 0 _ rfl)
  obtain ⟨a, h1⟩ := get 1 _ 1 Try.underlying3 (by kernel_rfl) rfl (by omega) (hf 1 _ rfl)
  obtain ⟨i, h2⟩ := get 2 _ 2 Try.underlying2 (by kernel_rfl) rfl (by omega) (hf 2 _ rfl)
  obtain ⟨v, h3⟩ := get 3 _ 3 Try.underlying2 (by kernel_rfl) rfl (by omega) (hf 3 _ rfl)
  match cs, hl4 with
  | [c0, c1, c2, c3], _ =>
    simp at h0 h1 h2 h3
    subst h0 h1 h2 h3
    exact ⟨⟨k, a, i, v⟩, rfl⟩

theorem open_acts {fuel : Nat} {v : Value} {x : DataW H × List MemPlace} (h : DataW.trod enc Try.prog W 0 (fun _ => true) held fuel 23 [v] = some x) :
    ∃ a n cap L, v = .slice a n cap ∧ Sl 4 RAct (full W) [] a n cap L := by
  rcases open_slice Try.underlying23 h with ⟨hc, _⟩ | ⟨a, len, cap, m, n, D, Pl, hc, _, hl, _, hm, _, hr⟩
  · cases hc
    exact ⟨none, 0, 0, [], rfl, rfl, Nat.le_refl _, fun _ => rfl, fun j x hj => by simp at hj⟩
  · cases hc
    simp only [if_true] at hm
    have each : ∀ i, i < len → ∃ y : ActD, ∀ j (u : Value), ([.int .i64 y.kind, .int .i64 y.a, .int .i64 y.i, .int .i64 y.v] : List Value)[j]? = some u → W.cell? (a.add (i * 4 + j)) = some u := by
      intro i hi
      obtain ⟨cs, h1, h2⟩ := hr i (by omega)
      have hce : Try.prog.cellsOf 31 = 4 := by kernel_rfl
      rw [hce] at h1
      obtain ⟨_, hcl, hat⟩ := World.cells?_some h1
      obtain ⟨y, rfl⟩ := open_act h2
      refine ⟨y, fun j u hu => ?_⟩
      have hj : j < 4 := (List.getElem?_eq_some_iff.1 hu).1
      have := hat j hj
      rw [Go.Deep.add_add] at this
      rw [this, hu]
    have : Inhabited ActD := ⟨⟨0, 0, 0, 0⟩⟩
    obtain ⟨Y, hY⟩ := choose_lt each
    refine ⟨some a, len, cap, (List.range len).map Y, rfl, sl_of (by omega) (by simp) hl fun j x hj => ?_⟩
    rw [List.getElem?_map] at hj
    obtain ⟨r, hr1, rfl⟩ := Option.map_eq_some_iff.1 hj
    have hjr : r = j ∧ j < len := by
      have := List.getElem?_eq_some_iff.1 hr1
      obtain ⟨h1, h2⟩ := this
      simp at h1 h2
      exact ⟨h2.symm, h1⟩
    obtain ⟨rfl, hjl⟩ := hjr
    exact ⟨_, rfl, rfl, fun i u hu => hY r hjl i u hu⟩
end

theorem own : ownKnob Try.prog.godebug = none := by kernel_rfl
theorem laidOut : laidOutB Try.prog = true := by kernel_rfl

set_option maxRecDepth 100000 in
theorem lifted (os : Os) (started : os.Started) (H : Type) (enc : TypeId × Value → H) :
    ReturnsInHanded {} Try.checked os 3 .any (Rows.heapPlaysSpec.pre6 enc Try.prog Try.f3 Rows.heapPlaysRow.domain false) (Rows.heapPlaysSpec.post enc Try.prog Try.f3 false true false false) := by
  refine returnsInHanded_of_change (C := Try.checked) own started (by kernel_rfl) Try.func3
    (ChangeSpec.witness6 (enc := enc) (C := Try.checked) false ⟨#[], #[.slice none 0 0, .slice none 0 0], []⟩ 8 (by kernel_rfl) (by kernel_rfl) (by kernel_rfl) (by kernel_rfl)) ?_
  intro W base args ds gs before hval0 hW _ _
  have hval : ∀ (j : Nat) t v, Try.f3.params[j]? = some t → args[j]? = some v → Value.okWide Try.prog W .any base t v := hval0
  have hW' := hW
  obtain ⟨p, q, hA0, hV, rfl, _, _⟩ := hW
  have hA : DataW.TrodAll enc Try.prog W 0 (fun _ => true) true Try.f3.params.toList args.toList ds p := hA0
  rw [Try.params3] at hA hval
  obtain ⟨v0, v1, d0, d1, p0, p1, rfl, rfl, rfl, h0, h1⟩ := trodAll_two hA
  obtain ⟨rfl, rfl⟩ := trodVars_none hV
  clear hA0 hval0
  have h0k := h0
  have h1k := h1
  obtain ⟨a0, n0, c0, hv0⟩ := okWide_slice Try.underlying22 (hval 0 22 v0 rfl rfl)
  obtain ⟨a1, n1, c1, hv1⟩ := okWide_slice Try.underlying23 (hval 1 23 v1 rfl rfl)
  subst hv0 hv1
  obtain ⟨fuel0, hf0⟩ := h0
  obtain ⟨fuel1, hf1⟩ := h1
  obtain ⟨a, n, cap, L, hs0, hl⟩ := open_rows hf0
  obtain ⟨a2, n2, cap2, acts, hs1, hl2⟩ := open_acts hf1
  cases hs0
  cases hs1
  simp only [List.append_nil] at hW'
  have hlt : ∀ x ∈ p0 ++ p1, x.block < W.heap.size := fun x hx => by simpa using hW'.lt x hx
  have hfn := plays_spec (full_sl W) hl hl2
  refine hfn.2.mono fun e W' ⟨v, he, J, hle, hS, hv⟩ => ?_
  subst he hv
  have hb := full_below hle hS
  have t0 := Below.trod laidOut (by kernel_rfl) (of_decide_eq_true (by kernel_rfl)) h0k hb (fun x hx => hlt x (List.mem_append_left _ hx))
  have t1 := Below.trod laidOut (by kernel_rfl) (of_decide_eq_true (by kernel_rfl)) h1k hb (fun x hx => hlt x (List.mem_append_right _ hx))
  refine ⟨_, rfl, [d0, d1], [], p0 ++ p1, [], p0 ++ p1, [], hW', ?_, ?_, rfl, hb.frame _, fun h => by cases h⟩
  · exact trodAll_cons_mk (shut_bool Try.underlying4 _) trodAll_mk0
  · have := trodAll_cons_mk t0 (trodAll_cons_mk t1 (trodAll_mk0 (enc := enc) (P := Try.prog) (w := W') (base := 0) (spare := fun b => decide (b < W.heap.size)) (held := true)))
    rw [List.append_nil] at this
    exact this

theorem heapPlays_holds : Rows.HeapPlaysSaid :=
  OpenClaim.holds_of_wide 3 Try.f3 rfl rfl rfl rfl rfl rfl rfl ⟨rfl, rfl, rfl, rfl, rfl⟩ rfl rfl rfl rfl rfl (by kernel_rfl) Try.func3 (by kernel_rfl)
    (of_decide_eq_true (by kernel_rfl)) (by unfold Func.isWrapper; first | (rw [if_pos (by decide +kernel)]; kernel_rfl) | (rw [if_neg (by decide +kernel)]; exact ⟨rfl, rfl⟩))
    (fun os started H enc _ => lifted os started H enc)

end Go.Proofs.Ytjgcokmgngdkeaa
