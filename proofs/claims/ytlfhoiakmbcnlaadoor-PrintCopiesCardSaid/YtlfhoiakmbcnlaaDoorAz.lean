/- Structs and slices that are built; slices that grow; calls; what is known henceforth. No conditions but bounds. -/
import Derived.Test.YtlfhoiakmbcnlaaDoorAy
namespace Go.Proofs.YtlfhoiakmbcnlaaDoor

/-! ### Building -/
def fillL (place : Nat → Option (Nat × Nat)) : List AV → List (Nat × List AV) → Option (List AV)
  | cells, [] => some cells
  | cells, (i, xs) :: rest =>
    match place i with
    | none => none
    | some (off, size) => bif Nat.beq xs.length size && Nat.ble (off + size) cells.length then fillL place (cells.take off ++ (xs ++ cells.drop (off + size))) rest else none

theorem foldl_set (off : Nat) : ∀ (l : List Value) (k : Nat) (cs : Array Value), off + k + l.length ≤ cs.size → ((l.zipIdx k).foldl (fun cs (x : Value × Nat) => cs.setIfInBounds (off + x.2) x.1) cs).toList = cs.toList.take (off + k) ++ l ++ cs.toList.drop (off + k + l.length) := by
  intro l
  induction l with
  | nil => intro k cs _; simp
  | cons c l ih =>
    intro k cs hk
    simp only [List.zipIdx_cons, List.foldl_cons]
    rw [ih (k + 1) _ (by simp at hk ⊢; omega)]
    simp only [Array.toList_setIfInBounds, List.length_cons]
    have hk' : off + k < cs.toList.length := by simp at hk ⊢; omega
    rw [← Nat.add_assoc off k 1, List.take_succ_eq_append_getElem (by simpa using hk'), List.getElem_set_self, List.take_set_of_le (Nat.le_refl _)]
    rw [List.drop_set_of_lt (by omega : off + k < off + k + 1 + l.length)]
    simp only [List.append_assoc, List.singleton_append]
    have : off + k + 1 + l.length = off + k + (l.length + 1) := by omega
    rw [this]

theorem fill_rep {I : G} {place : Nat → Option (Nat × Nat)} : ∀ (l : List (Nat × Value)) (cps : List (Nat × List AV)) (cells : List AV) (vcells : Array Value) (rs : List AV),
    cps.map (·.1) = l.map (·.1) → (∀ (j : Nat) p q, l[j]? = some p → cps[j]? = some q → RepL I q.2 p.2.cells.toList) → RepL I cells vcells.toList → fillL place cells cps = some rs →
    ∃ vc, Instr.fill place vcells l = some vc ∧ RepL I rs vc.toList
  | [], [], cells, vcells, rs, _, _, h, hf => ⟨vcells, rfl, by cases hf; exact h⟩
  | [], _ :: _, _, _, _, h, _, _, _ => by cases h
  | _ :: _, [], _, _, _, h, _, _, _ => by cases h
  | (i, v) :: l, (i', xs) :: cps, cells, vcells, rs, hk, hp, h, hf => by
    simp only [List.map_cons, List.cons.injEq] at hk
    obtain ⟨rfl, hk⟩ := hk
    unfold fillL at hf
    unfold Instr.fill
    cases hpl : place i' with
    | none => rw [hpl] at hf; cases hf
    | some os =>
      obtain ⟨off, size⟩ := os
      rw [hpl] at hf
      simp only at hf ⊢
      have hx := hp 0 _ _ rfl rfl
      simp only at hx
      have hxl := hx.length
      have hcl := h.length
      simp only [Array.length_toList] at hxl hcl
      cases hb : (Nat.beq xs.length size && Nat.ble (off + size) cells.length) with
      | false => rw [hb] at hf; cases hf
      | true =>
        rw [hb] at hf
        simp only [cond_true] at hf
        simp only [Bool.and_eq_true] at hb
        have e1 := Nat.eq_of_beq_eq_true hb.1
        have e2 := Nat.le_of_ble_eq_true hb.2
        rw [if_neg (show ¬ ((v.cells.size ≠ size || off + v.cells.size > vcells.size) = true) by simp; omega)]
        have hfold := foldl_set off v.cells.toList 0 vcells (by simp; omega)
        simp only [Nat.add_zero] at hfold
        have hfa : (v.cells.zipIdx.foldl (fun cs (x : Value × Nat) => cs.setIfInBounds (off + x.2) x.1) vcells).toList = vcells.toList.take off ++ v.cells.toList ++ vcells.toList.drop (off + size) := by
          rw [← Array.foldl_toList]
          have : v.cells.zipIdx.toList = v.cells.toList.zipIdx 0 := by simp
          have hlen : v.cells.toList.length = size := by rw [Array.length_toList]; omega
          rw [this, hfold, hlen]
        refine fill_rep l cps _ _ rs hk (fun j p q h1 h2 => hp (j + 1) p q (by simpa using h1) (by simpa using h2)) ?_ hf
        rw [hfa, List.append_assoc]
        exact (h.take off).append (hx.append (h.drop _))

/-- A struct type: where its fields lie, what its nought holds. -/
def Places (P : Program) (t : TypeId) (places : Array (Nat × Nat)) (zs : List AV) : Prop :=
  ∃ fs zv, P.underlying t = some (.struct fs) ∧ (∀ w, (zeroValue t).run P w = .ok zv w) ∧ (∀ w, (fs.mapM (m := Sem) fun f => do pure (f.offset, ← sizeOf f.type)).run P w = .ok places w) ∧ zv.cells.toList.map lit = zs
def PlacesA (P : Program) (t : TypeId) (k : Nat) (zs : List AV) : Prop :=
  ∃ n e zv, P.underlying t = some (.array n e) ∧ (∀ w, (zeroValue t).run P w = .ok zv w) ∧ (∀ w, (sizeOf e).run P w = .ok k w) ∧ zv.cells.toList.map lit = zs

section
variable {E : World} {P : Program} {ops : Array Oper} {K : AEnv → OL → Prop} {env : AEnv} {O O' : OL} {rest : List Oper}
variable {d ty : Nat} {pos : String} {af : Array Edge} {x y z : Operand} {t u e : TypeId}

theorem parts_rep {I : G} {ρ : Env} (h1 : RepE I env ρ) (l : List (Nat × Operand)) (hs : l.all (fun p => (aev env p.2).sto) = true) (j : Nat) (p : Nat × Value) (q : Nat × List AV)
    (hp : (l.map fun p => (p.1, ev ρ p.2))[j]? = some p) (hq : (l.map fun p => (p.1, (aev env p.2).cs))[j]? = some q) : RepL I q.2 p.2.cells.toList := by
  rw [List.getElem?_map] at hp hq
  cases hl : l[j]? with
  | none => rw [hl] at hp; cases hp
  | some o =>
    rw [hl] at hp hq
    cases hp; cases hq
    exact AV.cs_rep (h1.ev o.2) (List.all_eq_true.1 hs _ (List.mem_of_getElem? hl))

theorem Gv.build {places : Array (Nat × Nat)} {zs rs : List AV} {l : List (Nat × Operand)} {cps : List (Nat × List AV)} (hpl : Places P t places zs) (hs : l.all (fun p => (aev env p.2).sto) = true) (hv : l.map (fun p => (p.1, (aev env p.2).cs)) = cps)
    (hf : fillL (places[·]?) zs cps = some rs) : Gv P env O (Oper.mk (some d) (.build t l.toArray) ty pos af none) (.agg rs) := Gv.ofEv fun I ρ h => by
  obtain ⟨fs, zv, ht, hz, hp, hc⟩ := hpl
  obtain ⟨vc, h1, h2⟩ := fill_rep (I := I) (place := (places[·]?)) (l.map fun p => (p.1, ev ρ p.2)) cps zs zv.cells rs (by subst hv; simp) (fun j p q hj hq => parts_rep h l hs j p q hj (hv ▸ hq)) (hc ▸ lit_reps I _) hf
  refine ⟨.agg vc, ⟨vc.toList, by simp, h2⟩, fun w => ?_⟩
  have hrun : (Instr.build t (l.map fun p => (p.1, ev ρ p.2)).toArray).run P w = .ok (.agg vc) w := by
    unfold Instr.build
    simp only [Sem.run_bind, hz, Result.andThen_ok, run_underlying ht]
    rw [hp]
    simp only [Result.andThen_ok, h1]
    rfl
  simp only [execOp, List.map_toArray]
  rw [Sem.run_bind, hrun]; rfl
theorem Gv.buildA {k : Nat} {zs rs : List AV} {l : List (Nat × Operand)} {cps : List (Nat × List AV)} (hpl : PlacesA P t k zs) (hs : l.all (fun p => (aev env p.2).sto) = true) (hv : l.map (fun p => (p.1, (aev env p.2).cs)) = cps)
    (hf : fillL (fun i => some (i * k, k)) zs cps = some rs) : Gv P env O (Oper.mk (some d) (.build t l.toArray) ty pos af none) (.agg rs) := Gv.ofEv fun I ρ h => by
  obtain ⟨n, e, zv, ht, hz, hp, hc⟩ := hpl
  obtain ⟨vc, h1, h2⟩ := fill_rep (I := I) (place := fun i => some (i * k, k)) (l.map fun p => (p.1, ev ρ p.2)) cps zs zv.cells rs (by subst hv; simp) (fun j p q hj hq => parts_rep h l hs j p q hj (hv ▸ hq)) (hc ▸ lit_reps I _) hf
  refine ⟨.agg vc, ⟨vc.toList, by simp, h2⟩, fun w => ?_⟩
  have hrun : (Instr.build t (l.map fun p => (p.1, ev ρ p.2)).toArray).run P w = .ok (.agg vc) w := by
    unfold Instr.build
    simp only [Sem.run_bind, hz, Result.andThen_ok, run_underlying ht, hp, h1]
    rfl
  simp only [execOp, List.map_toArray]
  rw [Sem.run_bind, hrun]; rfl

/-- A slice of a literal's: `n` places of `k` cells. -/
def PlacesS (P : Program) (t e : TypeId) (n k : Nat) (zs : List AV) : Prop :=
  ∃ zv, P.underlying t = some (.slice e) ∧ (∀ w, (sizeOf e).run P w = .ok k w) ∧ (∀ w, (zeroValue e).run P w = .ok zv w) ∧ 0 < n * k ∧ n * k ≤ 2 ^ 24 ∧ ((Array.range (n * k)).map (zv.cells[· % zv.cells.size]!)).toList.map lit = zs
theorem run_buildSliceL {n k : Nat} {zs rs : List AV} {l : List (Nat × Operand)} {cps : List (Nat × List AV)} (hpl : PlacesS P t e n k zs) (hs : l.all (fun p => (aev env p.2).sto) = true) (hv : l.map (fun p => (p.1, (aev env p.2).cs)) = cps)
    (hf : fillL (fun i => some (i * k, k)) zs cps = some rs) {I : G} {ρ : Env} (h : RepE I env ρ) : ∃ vc : List Value, RepL I rs vc ∧ ∀ w, (execOp (ev ρ) (Oper.mk (some d) (.buildSlice t n l.toArray) ty pos af none)).run P w = .ok (.value (.slice (some ⟨w.heap.size, 0, none⟩) n n)) (w.alloc (.cells vc.toArray e)) := by
  obtain ⟨zv, ht, hsz, hz, h0, h24, hc⟩ := hpl
  obtain ⟨vc, h1, h2⟩ := fill_rep (I := I) (place := fun i => some (i * k, k)) (l.map fun p => (p.1, ev ρ p.2)) cps zs ((Array.range (n * k)).map (zv.cells[· % zv.cells.size]!)) rs (by subst hv; simp) (fun j p q hj hq => parts_rep h l hs j p q hj (hv ▸ hq)) (hc ▸ lit_reps I _) hf
  refine ⟨vc.toList, h2, fun w => ?_⟩
  have hrun : (Instr.buildSlice t n (l.map fun p => (p.1, ev ρ p.2)).toArray).run P w = .ok (.slice (some ⟨w.heap.size, 0, none⟩) n n) (w.alloc (.cells vc e)) := by
    unfold Instr.buildSlice
    simp only [Sem.run_bind, Result.andThen_ok, run_underlying ht, hsz]
    rw [if_neg (by omega)]
    simp only [Sem.run_pure, Result.andThen_ok, if_neg (by omega : ¬ n * k = 0), Sem.run_bind, hz, h1, newRow]
    simp
  simp only [execOp, List.map_toArray]
  rw [Sem.run_bind, hrun]; simp

theorem RepR.of_flat {I : G} {k b : Nat} {c : Array Value} {T : TypeId} {f : Nat × Nat} (hb : I.k b = some (.cells c T f)) : ∀ (rows : List (List AV)) (vs : List Value) (j : Nat), (∀ r ∈ rows, r.length = k) → RepL I rows.flatten vs → (∀ (i : Nat) u, vs[i]? = some u → c[j * k + i]? = some u) → RepR I k (some ⟨b, 0, none⟩) j rows
  | [], _, _, _, _, _ => trivial
  | r :: rows, vs, j, hk, h, hc => by
    have hr := hk r (by simp)
    have h1 := h.take r.length
    have h2 := h.drop r.length
    simp only [List.flatten_cons, List.take_left, List.drop_left] at h1 h2
    refine ⟨⟨b, 0, vs.take r.length, rfl, ?_, h1, fun i u hu => ⟨c, T, f, hb, ?_⟩⟩, RepR.of_flat hb rows _ (j + 1) (fun r hr => hk r (by simp [hr])) h2 fun i u hu => ?_⟩
    · rw [h1.length, hr]
    · rw [List.getElem?_take] at hu
      split at hu
      · rw [Nat.zero_add]; exact hc i u hu
      · cases hu
    · rw [List.getElem?_drop, hr] at hu
      have := hc _ u hu
      rw [Nat.add_mul, Nat.one_mul, Nat.add_assoc]; exact this

theorem AOps.buildSliceF {n k : Nat} {zs rs : List AV} {rows : List (List AV)} {l : List (Nat × Operand)} {cps : List (Nat × List AV)} (hpl : PlacesS P t e n k zs) (hs : l.all (fun p => (aev env p.2).sto) = true) (hv : l.map (fun p => (p.1, (aev env p.2).cs)) = cps)
    (hf : fillL (fun i => some (i * k, k)) zs cps = some rs) (hr : rows.flatten = rs) (hk : rows.all (fun r => Nat.beq r.length k) = true) (hn : rows.length = n) (kk : AOps P E ops K rest (aupd env d (.fro k rows)) O) :
    AOps P E ops K (Oper.mk (some d) (.buildSlice t n l.toArray) ty pos af none :: rest) env O := fun I F ρ w h1 h2 => by
  obtain ⟨htop, L, hL, hS⟩ := h2
  obtain ⟨vc, hrep, hrun⟩ := run_buildSliceL (d := d) (ty := ty) (pos := pos) (af := af) hpl hs hv hf h1
  refine Ops.step rfl ?_
  unfold OpW
  rw [hrun w]
  obtain ⟨hl, hS'⟩ := hS.alloc_pers (.cells vc.toArray e)
  let J : G := ⟨I.k.put w.heap.size (.cells vc.toArray e), I.h⟩
  have hle : I.le J := ⟨hl, fun _ _ h => h⟩
  have hb : J.k w.heap.size = some (.cells vc.toArray e) := Ghost.put_same _ _ _
  refine Ops.mono (fun _ _ => postK.up hle) _ _ _ (kk J F _ _ ((h1.mono hle).upd d ⟨_, n, n, rfl, hn.symm, Nat.le_refl _, fun h => by (cases h), ?_⟩) ⟨htop, L, hL.mono hle, hS'⟩)
  exact RepR.of_flat hb rows vc 0 (fun r h => Nat.eq_of_beq_eq_true (List.all_eq_true.1 hk r h)) (hr ▸ RepL.mono hle _ _ hrep) (fun i u hu => by simpa using hu)

theorem AOps.buildSliceO {n k : Nat} {zs rs : List AV} {l : List (Nat × Operand)} {cps : List (Nat × List AV)} (hpl : PlacesS P t e n k zs) (hs : l.all (fun p => (aev env p.2).sto) = true) (hv : l.map (fun p => (p.1, (aev env p.2).cs)) = cps)
    (hf : fillL (fun i => some (i * k, k)) zs cps = some rs) (hk : rs.length = n * k) (hc1 : rs.all AV.cell = true) (kk : ∀ i, AOps P E ops K rest (aupd env d (.own i n)) ((i, .grow k e rs) :: O)) :
    AOps P E ops K (Oper.mk (some d) (.buildSlice t n l.toArray) ty pos af none :: rest) env O := fun I F ρ w h1 h2 => by
  obtain ⟨L, hL, hS⟩ := h2.2
  obtain ⟨vc, hrep, hrun⟩ := run_buildSliceL (d := d) (ty := ty) (pos := pos) (af := af) hpl hs hv hf h1
  refine Ops.step rfl ?_
  unfold OpW
  rw [hrun w]
  obtain ⟨i, hi⟩ := h2.name
  obtain ⟨J, e1, hle, e2, htop⟩ := hi (some w.heap.size, n)
  have hS' := hS.alloc (.cells vc.toArray e)
  refine Ops.mono (fun _ _ => postK.up hle) _ _ _ (kk i J F _ _ ((h1.mono hle).upd d ⟨_, n, e2, rfl⟩) ⟨htop, _, ⟨[(w.heap.size, .cells vc.toArray e (0, 0))], L, rfl, ⟨_, n, n, vc, e2, RepL.mono hle _ _ hrep, hrep.cell1 hc1, OwnS.made (by rw [hrep.length, hk])⟩, hL.mono hle⟩, by rw [e1]; exact hS'⟩)

theorem AOps.buildSlice0 {i : TypeInfo} {k : Nat} (ht : P.underlying t = some (.slice e)) (hi : P.info? e = some i) (kk : ∀ j, AOps P E ops K rest (aupd env d (.own j 0)) ((j, .grow k e []) :: O)) :
    AOps P E ops K (Oper.mk (some d) (.buildSlice t 0 #[]) ty pos af none :: rest) env O := fun I F ρ w h1 h2 => by
  obtain ⟨L, hL, hS⟩ := h2.2
  obtain ⟨j, hj⟩ := h2.name
  refine Ops.buildSlice0 ht hi hS fun b w' hS' => ?_
  obtain ⟨J, e1, hle, e2, htop⟩ := hj (some b, 0)
  refine Ops.mono (fun _ _ => postK.up hle) _ _ _ (kk j J F _ _ ((h1.mono hle).upd d ⟨_, 0, e2, rfl⟩) ⟨htop, _, ⟨[(b, .cells [].toArray e (0, 0))], L, rfl, ⟨some b, 0, 0, [], e2, rfl, (by simp), OwnS.made (n := 0) (by simp)⟩, hL.mono hle⟩, by rw [e1]; exact hS'⟩)

theorem AOps.make1 {i : TypeInfo} {zv z1 : Value} {m : Nat} {k1 k2 : IntKind} {l l' : Int} (ht : P.underlying t = some (.slice e)) (hi : P.info? e = some i) (hz : i.zero = some zv) (hzc : zv.cells = #[z1]) (hk : i.size = 1) (hx : aev env x = .int k1 l) (hy : aev env y = .int k2 l')
    (hl : l = (m : Int)) (hl' : l' = (m : Int)) (hb : (i.bytes : Int) * (m : Int) ≤ 281474976710656) (hm : m ≤ 281474976710656) (hz1 : z1.oneCell' = true) (kk : ∀ j, AOps P E ops K rest (aupd env d (.own j m)) ((j, .grow 1 e (List.replicate m (lit z1))) :: O)) :
    AOps P E ops K (Oper.mk (some d) (.makeSlice t x y) ty pos af none :: rest) env O := fun I F ρ w h1 h2 => by
  obtain ⟨L, hL, hS⟩ := h2.2
  obtain ⟨j, hj⟩ := h2.name
  refine Ops.make1 ht hi hz hzc hk (evI h1 hx) (evI h1 hy) hl hl' hb hm hS fun b w' hS' => ?_
  obtain ⟨J, e1, hle, e2, htop⟩ := hj (some b, m)
  have hrep : RepL J (List.replicate m (lit z1)) (List.replicate m z1) := by
    have := lit_reps J (List.replicate m z1)
    rwa [List.map_replicate] at this
  refine Ops.mono (fun _ _ => postK.up hle) _ _ _ (kk j J F _ _ ((h1.mono hle).upd d ⟨_, m, e2, rfl⟩) ⟨htop, _, ⟨[(b, .cells (List.replicate m z1).toArray e (0, 0))], L, rfl, ⟨some b, m, m, _, e2, hrep, (fun u hu => by rw [List.eq_of_mem_replicate hu]; exact hz1), OwnS.made (by simp)⟩, hL.mono hle⟩, by rw [e1]; exact hS'⟩)
end
end Go.Proofs.YtlfhoiakmbcnlaaDoor
