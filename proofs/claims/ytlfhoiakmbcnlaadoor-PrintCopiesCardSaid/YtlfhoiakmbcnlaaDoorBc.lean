/- Parts of what is owned; strings gone through; slices cut. No conditions but bounds. -/
import Derived.Test.YtlfhoiakmbcnlaaDoorBb
namespace Go.Proofs.YtlfhoiakmbcnlaaDoor

inductive Part : OL → OL → OL → Prop
  | rest (O) : Part O O []
  | l {x O A B} : Part O A B → Part (x :: O) (x :: A) B
  | r {x O A B} : Part O A B → Part (x :: O) A (x :: B)
theorem Part.perm {O A B : OL} (h : Part O A B) : O.Perm (A ++ B) := by
  induction h with
  | rest => simp
  | l _ ih => exact ih.cons _
  | r _ ih => exact (ih.cons _).trans List.perm_middle.symm

section
variable {E : World} {P : Program} {n : Nat} {ops : Array Oper} {K : AEnv → OL → Prop} {env : AEnv} {O O' : OL} {rest : List Oper}
variable {d ty : Nat} {pos : String} {af : Array Edge} {x y z : Operand} {t u e : TypeId}

/-- A store over all of a variable. -/
theorem AOps.storeW {i m : Nat} {T : TypeId} {v : AV} {cs l : List AV} (hs : ∀ w, (sizeOf t).run P w = .ok m w) (hx : aev env x = .po i 0) (hy : aev env y = v) (hv : v.sto = true) (hl : v.cs = l) (hl1 : l.all AV.cell = true) (hn : l.length = m)
    (hO : Put O i (.cells T cs) (.cells T l) O') (hb : cs.length = m) (k : AOps P E ops K rest env O') : AOps P E ops K (Oper.mk none (.store t x y) ty pos af none :: rest) env O :=
  AOps.storeC (off := 0) hs hx hy hv hl hl1 hn hO (by rw [hb]; simp) (by rw [Nat.zero_add, List.drop_eq_nil_of_le (by omega)]; simp) k

/-- A store into a place of a slice of one's own. -/
theorem AOps.storeG {i off m k : Nat} {T : TypeId} {v : AV} {cs l new : List AV} (hs : ∀ w, (sizeOf t).run P w = .ok m w) (hx : aev env x = .po i off) (hy : aev env y = v) (hv : v.sto = true) (hl : v.cs = l) (hl1 : l.all AV.cell = true) (hn : l.length = m)
    (hO : Put O i (.grow k T cs) (.grow k T new) O') (hb : off + m ≤ cs.length) (hm : 0 < m) (hnew : cs.take off ++ l ++ cs.drop (off + m) = new) (kk : AOps P E ops K rest env O') : AOps P E ops K (Oper.mk none (.store t x y) ty pos af none :: rest) env O := fun I F ρ w h1 h2 => by
  obtain ⟨htop, L, hL, hS⟩ := h2
  have h3 := h1.ev x
  rw [hx] at h3
  obtain ⟨b, c, e1, e⟩ := h3
  have h4 := h1.ev y
  rw [hy] at h4
  have h5 := AV.cs_rep h4 hv
  rw [hl] at h5
  obtain ⟨A, B, hp, ⟨b', c', n', vs, e2, h6, h6c, hown⟩, hback⟩ := hO.rep hL
  simp only at e2
  rw [e1] at e2
  simp only [Option.some.injEq, Prod.mk.injEq] at e2
  obtain ⟨rfl, rfl⟩ := e2
  obtain ⟨g1, g2, g3⟩ := hown
  rcases g3 with ⟨g3, _, _⟩ | ⟨b'', junk, g3, rfl, g4⟩
  · simp [adr] at g3
  simp [adr] at g3
  subst g3
  have hS2 : SL I.k ((b, .cells (vs ++ junk).toArray T (0, 0)) :: (B ++ F)) E w := hS.perm ((hp.append_right F).symm)
  have hlen := h6.length
  have hrun := run_storeAt (P := P) (t := t) (b := b) (off := off) (v := ev ρ y) (vs := (ev ρ y).cells.toList) (old := vs ++ junk) (w := w) hs (by simp) (by rw [h5.length, hn]) (h5.cell1 hl1) (by rw [List.length_append]; omega) (hS2.own _ (.head _))
  have hre : (vs ++ junk).take off ++ (ev ρ y).cells.toList ++ (vs ++ junk).drop (off + m) = (vs.take off ++ (ev ρ y).cells.toList ++ vs.drop (off + m)) ++ junk := by
    rw [List.take_append_of_le_length (by omega), List.drop_append_of_le_length (by omega)]; simp
  rw [hre] at hrun
  refine Ops.step rfl ?_
  unfold OpW
  have : (execOp (ev ρ) (Oper.mk none (.store t x y) ty pos af none)).run P w = .ok .skip (w.setRow b ((vs.take off ++ (ev ρ y).cells.toList ++ vs.drop (off + m)) ++ junk).toArray) := by
    simp only [execOp, e]
    rw [Sem.run_bind, hrun]; rfl
  rw [this]
  have hnr : RepL I new (vs.take off ++ (ev ρ y).cells.toList ++ vs.drop (off + m)) := hnew ▸ ((h6.take off).append h5).append (h6.drop (off + m))
  have hnl : (vs.take off ++ (ev ρ y).cells.toList ++ vs.drop (off + m)).length = vs.length := by
    have := h5.length
    simp only [List.length_append, List.length_take, List.length_drop]; omega
  obtain ⟨L', h7, h8⟩ := hback (G.le.refl I) (A' := [(b, .cells ((vs.take off ++ (ev ρ y).cells.toList ++ vs.drop (off + m)) ++ junk).toArray T (0, 0))]) ⟨some b, _, n', _, e1, hnr, by
    intro u hu
    simp only [List.mem_append] at hu
    rcases hu with (hu | hu) | hu
    · exact h6c u (List.mem_of_mem_take hu)
    · exact h5.cell1 hl1 u hu
    · exact h6c u (List.mem_of_mem_drop hu), by rw [hnl]; exact g1, g2, .inr ⟨b, junk, rfl, rfl, by
      simp only [List.length_append] at g4 ⊢
      simp only [List.length_append] at hnl
      omega⟩⟩
  exact kk I F ρ _ h1 ⟨htop, L', h7, (hS2.turn1).perm (h8.append_right F)⟩
theorem AOps.storeG1 {i off k : Nat} {T : TypeId} {v : AV} {cs : List AV} (hs : ∀ w, (sizeOf t).run P w = .ok 1 w) (hx : aev env x = .po i off) (hy : aev env y = v) (hv : v.sto = true) (hl : v.cs = [v]) (hl1 : v.cell = true)
    (hO : Put O i (.grow k T cs) (.grow k T (cs.set off v)) O') (hb : off < cs.length) (kk : AOps P E ops K rest env O') : AOps P E ops K (Oper.mk none (.store t x y) ty pos af none :: rest) env O :=
  AOps.storeG hs hx hy hv hl (by simp [hl1]) rfl hO (by omega) (by omega) (by rw [List.set_eq_take_append_cons_drop, if_pos hb]; simp) kk

theorem Gv.field1 {fs : Array Field} {f : Field} {i : Nat} {cs : List AV} {v : AV} (ht : P.underlying t = some (.struct fs)) (hf : fs[i]? = some f) (ha : ∀ w, (isAgg f.type).run P w = .ok false w) (hx : aev env x = .agg cs) (hv : cs[f.offset]? = some v) :
    Gv P env O (Oper.mk (some d) (.field t x i) ty pos af none) v := Gv.ofEv fun I ρ h => by
  have h2 := h.ev x
  rw [hx] at h2
  obtain ⟨vs, e, hr⟩ := h2
  obtain ⟨u, hu, hru⟩ := hr.get hv
  exact ⟨u, hru, fun w => by simp [execOp, e, Instr.field, run_underlying ht, hf, part, ha, hu, asAgg, Result.andThen]⟩
theorem Gv.fieldA {fs : Array Field} {f : Field} {i sz : Nat} {cs l : List AV} (ht : P.underlying t = some (.struct fs)) (hf : fs[i]? = some f) (ha : ∀ w, (isAgg f.type).run P w = .ok true w) (hs : ∀ w, (sizeOf f.type).run P w = .ok sz w) (hx : aev env x = .agg cs) (hl : (cs.drop f.offset).take sz = l) :
    Gv P env O (Oper.mk (some d) (.field t x i) ty pos af none) (.agg l) := Gv.ofEv fun I ρ h => by
  have h2 := h.ev x
  rw [hx] at h2
  obtain ⟨vs, e, hr⟩ := h2
  refine ⟨.agg ((vs.drop f.offset).take sz).toArray, ⟨_, rfl, hl ▸ (hr.drop _).take _⟩, fun w => ?_⟩
  simp [execOp, e, Instr.field, run_underlying ht, hf, part, ha, hs, asAgg, Result.andThen]
/-- The place of an array. -/
theorem Gv.idxAF {n k j : Nat} {i : Int} {cs cs' : List AV} (ht : P.underlying t = some (.array n e)) (hs : ∀ w, (sizeOf e).run P w = .ok k w) (hx : aev env x = .pf cs) (hy : aev env y = .int .i64 i) (hi : i = (j : Int)) (hj : j < n) (hl : cs.drop (j * k) = cs') :
    Gv P env O (Oper.mk (some d) (.indexAddr t x y) ty pos af none) (.pf cs') := fun I L E ρ h1 _ => by
  have h2 := h1.ev x
  rw [hx] at h2
  obtain ⟨b, off, vs, ex, h3, h5⟩ := h2
  refine ⟨.pointer (some ⟨b, off + j * k, none⟩), ⟨b, _, vs.drop (j * k), rfl, hl ▸ h3.drop _, fun m u hu => ?_⟩, fun w J L' _ _ _ => ?_⟩
  · rw [List.getElem?_drop] at hu
    have := h5 _ _ hu
    rwa [← Nat.add_assoc] at this
  · subst hi
    simp [execOp, ex, evI h1 hy, Instr.indexAt, asIntOf, run_underlying ht, hs, hj, addr_add, Instr.sureAddr]
theorem Gv.idxAO {n k j id off : Nat} {i : Int} (ht : P.underlying t = some (.array n e)) (hs : ∀ w, (sizeOf e).run P w = .ok k w) (hx : aev env x = .po id off) (hy : aev env y = .int .i64 i) (hi : i = (j : Int)) (hj : j < n) {r : Nat} (hr : off + j * k = r) :
    Gv P env O (Oper.mk (some d) (.indexAddr t x y) ty pos af none) (.po id r) := fun I L E ρ h1 _ => by
  have h2 := h1.ev x
  rw [hx] at h2
  obtain ⟨b, c, e1, ex⟩ := h2
  refine ⟨.pointer (some ⟨b, r, none⟩), ⟨b, c, e1, rfl⟩, fun w J L' _ _ _ => ?_⟩
  subst hi hr
  simp [execOp, ex, evI h1 hy, Instr.indexAt, asIntOf, run_underlying ht, hs, hj, addr_add, Instr.sureAddr]
/-- The place of an array that stands in a slot. -/
theorem Gv.index1 {n j : Nat} {i : Int} {cs : List AV} {v : AV} (ht : P.underlying t = some (.array n e)) (ha : ∀ w, (isAgg e).run P w = .ok false w) (hs : ∀ w, (sizeOf e).run P w = .ok 1 w) (hx : aev env x = .agg cs) (hy : aev env y = .int .i64 i) (hi : i = (j : Int)) (hj : j < n) (hv : cs[j]? = some v) :
    Gv P env O (Oper.mk (some d) (.index t x y) ty pos af none) v := Gv.ofEv fun I ρ h => by
  have h2 := h.ev x
  rw [hx] at h2
  obtain ⟨vs, ex, hr⟩ := h2
  obtain ⟨u, hu, hru⟩ := hr.get hv
  refine ⟨u, hru, fun w => ?_⟩
  subst hi
  simp [execOp, ex, evI h hy, Instr.index, asIntOf, run_underlying ht, hj, hs, part, ha, hu, Result.andThen]
theorem Gv.indexA {n j k : Nat} {i : Int} {cs l : List AV} (ht : P.underlying t = some (.array n e)) (ha : ∀ w, (isAgg e).run P w = .ok true w) (hs : ∀ w, (sizeOf e).run P w = .ok k w) (hx : aev env x = .agg cs) (hy : aev env y = .int .i64 i) (hi : i = (j : Int)) (hj : j < n) (hl : (cs.drop (j * k)).take k = l) :
    Gv P env O (Oper.mk (some d) (.index t x y) ty pos af none) (.agg l) := Gv.ofEv fun I ρ h => by
  have h2 := h.ev x
  rw [hx] at h2
  obtain ⟨vs, ex, hr⟩ := h2
  refine ⟨.agg ((vs.drop (j * k)).take k).toArray, ⟨_, rfl, hl ▸ (hr.drop _).take _⟩, fun w => ?_⟩
  subst hi
  simp [execOp, ex, evI h hy, Instr.index, asIntOf, run_underlying ht, hj, hs, part, ha, Result.andThen]
theorem Gv.indexT {j : Nat} {i : Int} {s : ByteArray} {c : UInt8} (ht : P.underlying t = some .string) (hx : aev env x = .str s) (hy : aev env y = .int .i64 i) (hi : i = (j : Int)) (hv : s.data[j]? = some c) :
    Gv P env O (Oper.mk (some d) (.index t x y) ty pos af none) (.int .u8 c.toNat) := Gv.ofEv fun I ρ h => by
  refine ⟨_, rfl, fun w => ?_⟩
  subst hi
  have hj : s[j]? = some c := by
    have h1 := (Array.getElem?_eq_some_iff.1 hv)
    obtain ⟨h1, h2⟩ := h1
    show (if h : j < s.size then some s[j] else none) = some c
    rw [dif_pos (show j < s.size from h1)]; exact congrArg some h2
  simp [execOp, evT h hx, evI h hy, Instr.index, asIntOf, run_underlying ht, hj]

theorem AOps.rangeT {s : ByteArray} (ht : P.underlying t = some .string) (hx : aev env x = .str s) (k : ∀ i, AOps P E ops K rest (aupd env d (.po i 0)) ((i, .iter s 0) :: O)) : AOps P E ops K (Oper.mk (some d) (.range t x) ty pos af none :: rest) env O := fun I F ρ w h1 h2 => by
  obtain ⟨L, hL, hS⟩ := h2.2
  obtain ⟨i, hi⟩ := h2.name
  refine Ops.rangeT ht hS (evT h1 hx) fun b w' hS' => ?_
  obtain ⟨J, e1, hle, e2, htop⟩ := hi (some b, 0)
  exact Ops.mono (fun _ _ => postK.up hle) _ _ _ (k i J F _ _ ((h1.mono hle).upd d ⟨b, 0, e2, rfl⟩) ⟨htop, _, ⟨_, L, rfl, ⟨b, 0, e2, rfl⟩, hL.mono hle⟩, by rw [e1]; exact hS'⟩)
theorem AOps.nextT {i p : Nat} {s : ByteArray} (hx : aev env x = .po i 0) (hO : Put O i (.iter s p) (.iter s (p + (Utf8.decode s p).2)) O') (hp : p < s.size)
    (k : AOps P E ops K rest (aupd env d (.tup [.bool true, .int .i64 p, .int .i32 (Utf8.decode s p).1])) O') : AOps P E ops K (Oper.mk (some d) (.next x true) ty pos af none :: rest) env O := fun I F ρ w h1 h2 => by
  obtain ⟨ht, L, hL, hS⟩ := h2
  have h3 := h1.ev x
  rw [hx] at h3
  obtain ⟨b, c, e1, e⟩ := h3
  obtain ⟨A, B, hp1, ⟨b', c', e2, rfl⟩, hback⟩ := hO.rep hL
  simp only at e2
  rw [e1] at e2
  simp only [Option.some.injEq, Prod.mk.injEq] at e2
  obtain ⟨rfl, rfl⟩ := e2
  have hS2 : SL I.k ((b, .stringIter s p) :: (B ++ F)) E w := hS.perm ((hp1.append_right F).symm)
  refine Ops.nextT hS2 e hp fun w' hS' => ?_
  obtain ⟨L', h7, h8⟩ := hback (G.le.refl I) (A' := [(b, .stringIter s (p + (Utf8.decode s p).2))]) ⟨b, c, e1, rfl⟩
  exact k I F _ _ (h1.upd d ⟨[.bool true, .int .i64 p, .int .i32 (Utf8.decode s p).1], rfl, ⟨_, _, rfl, rfl, ⟨_, _, rfl, rfl, ⟨_, _, rfl, rfl, rfl⟩⟩⟩⟩) ⟨ht, L', h7, hS'.perm (h8.append_right F)⟩
theorem AOps.nextTover {i p : Nat} {s : ByteArray} (hx : aev env x = .po i 0) (hO : Pick O i (.iter s p) O') (hp : ¬ p < s.size)
    (k : AOps P E ops K rest (aupd env d (.tup [.bool false])) O) : AOps P E ops K (Oper.mk (some d) (.next x true) ty pos af none :: rest) env O := fun I F ρ w h1 h2 => by
  obtain ⟨ht, L, hL, hS⟩ := id h2
  have h3 := h1.ev x
  rw [hx] at h3
  obtain ⟨b, c, e1, e⟩ := h3
  obtain ⟨A, B, hp1, ⟨b', c', e2, rfl⟩, _⟩ := hO.rep hL
  simp only at e2
  rw [e1] at e2
  simp only [Option.some.injEq, Prod.mk.injEq] at e2
  obtain ⟨rfl, rfl⟩ := e2
  have hS2 : SL I.k ((b, .stringIter s p) :: (B ++ F)) E w := hS.perm (by have := (hp1.append_right F).symm; simpa using this)
  exact Ops.nextTover hS2 e hp (k I F _ _ (h1.upd d ⟨[.bool false], rfl, ⟨_, _, rfl, rfl, rfl⟩⟩) h2)
theorem AOps.nextA {i p : Nat} {s : ByteArray} {c : UInt8} (hx : aev env x = .po i 0) (hc : s.data[p]? = some c) (hc2 : c < 128) (hO : Put O i (.iter s p) (.iter s (p + 1)) O')
    (k : AOps P E ops K rest (aupd env d (.tup [.bool true, .int .i64 p, .int .i32 (c.toNat : Int)])) O') : AOps P E ops K (Oper.mk (some d) (.next x true) ty pos af none :: rest) env O := by
  have hp : p < s.size := by
    by_cases hp : p < s.data.size
    · exact hp
    · rw [Array.getElem?_eq_none (by omega)] at hc; cases hc
  have hd := decode_ascii hc hc2
  exact AOps.nextT hx (by rw [hd]; exact hO) hp (by rw [hd]; exact k)
end
end Go.Proofs.YtlfhoiakmbcnlaaDoor
