/- What an operation comes to that writes, over a heap told exactly. No conditions. -/
import Derived.Test.YtoicilchhkndmaaGreatDoorJk
import Derived.Test.YtoicilchhkndmaaGreatDoorJd
set_option linter.unusedVariables false
set_option linter.unusedSimpArgs false
set_option linter.unusedSectionVars false
namespace Go.Proofs.YtoicilchhkndmaaGreatDoor
def IntO : Option Value → Option Nat → Prop
 | none, none => True
 | some v, some n => ∃ k, v = .int k (n : Int)
 | _, _ => False
theorem bound_ok {P : Program} {w : World} {k : IntKind} {n y : Nat} {c : BoundsCode} (h : n ≤ y) : (Instr.sliceBound (.int k (n : Int)) y c).run P w = .ok n w := by
 have : (0 : Int) ≤ (n : Int) ∧ (n : Int) ≤ (y : Int) := by omega
 simp [Instr.sliceBound, asIntOf, this]
theorem bounds_ok {P : Program} {w : World} {s : Bool} {len cap : Nat} {lo hi mx : Option Value} {lo' hi' mx' : Option Nat} (h1 : IntO lo lo') (h2 : IntO hi hi') (h3 : IntO mx mx') (hm : mx'.isSome = true → hi'.isSome = true)
  (c1 : mx'.getD cap ≤ cap) (c2 : hi'.getD len ≤ mx'.getD cap) (c3 : lo'.getD 0 ≤ hi'.getD len) : (Instr.sliceBounds s len cap lo hi mx).run P w = .ok (lo'.getD 0, hi'.getD len, mx'.getD cap) w := by
 cases mx with
 | some m =>
  cases mx' with
  | none => exact h3.elim
  | some m' =>
   cases hi' with
   | none => simp at hm
   | some g =>
    cases hi with
    | none => exact h2.elim
    | some hv =>
     obtain ⟨k1, rfl⟩ := h3
     obtain ⟨k2, rfl⟩ := h2
     simp only [Option.getD_some] at c1 c2 c3 ⊢
     cases lo with
     | none =>
      cases lo' with
      | none => simp only [Instr.sliceBounds, Sem.run_bind, bound_ok c1, Result.andThen_ok, bound_ok c2]; simp
      | some _ => exact h1.elim
     | some l =>
      cases lo' with
      | none => exact h1.elim
      | some l' =>
       obtain ⟨k3, rfl⟩ := h1
       simp only [Option.getD_some] at c3 ⊢
       simp only [Instr.sliceBounds, Sem.run_bind, bound_ok c1, Result.andThen_ok, bound_ok c2, bound_ok c3]; simp
 | none =>
  cases mx' with
  | some _ => exact h3.elim
  | none =>
   simp only [Option.getD_none] at c1 c2 ⊢
   cases hi with
   | none =>
    cases hi' with
    | some _ => exact h2.elim
    | none =>
     simp only [Option.getD_none] at c2 c3 ⊢
     cases lo with
     | none =>
      cases lo' with
      | none => simp [Instr.sliceBounds]
      | some _ => exact h1.elim
     | some l =>
      cases lo' with
      | none => exact h1.elim
      | some l' =>
       obtain ⟨k3, rfl⟩ := h1
       simp only [Option.getD_some] at c3 ⊢
       simp [Instr.sliceBounds, bound_ok c3]
   | some hv =>
    cases hi' with
    | none => exact h2.elim
    | some g =>
     obtain ⟨k2, rfl⟩ := h2
     simp only [Option.getD_some] at c2 c3 ⊢
     cases lo with
     | none =>
      cases lo' with
      | none => simp [Instr.sliceBounds, bound_ok c2]
      | some _ => exact h1.elim
     | some l =>
      cases lo' with
      | none => exact h1.elim
      | some l' =>
       obtain ⟨k3, rfl⟩ := h1
       simp only [Option.getD_some] at c3 ⊢
       simp [Instr.sliceBounds, bound_ok c2, bound_ok c3]
theorem extract_list (s : ByteArray) (l h : Nat) : s.extract l h = ⟨((s.data.toList.drop l).take (h - l)).toArray⟩ := by
 have e : (s.extract l h).data = s.data.extract l h := ByteArray.data_extract
 cases hx : s.extract l h with
 | mk d =>
  rw [hx] at e
  simp only at e
  rw [e]; congr 1
  apply Array.toList_inj.1
  simp [List.extract_eq_take_drop]
def cutCp (k k' l : Nat) (mx : Option Nat) (c : Cp) : Cp :=
 match mx, c with
 | some m, _ => .ex (m - l)
 | none, .ex m => .ex (m - l)
 | none, .en => bif Nat.beq k k' then .en else .un
 | none, .un => .un
def fitsCp (len n : Nat) : Cp → Bool
 | .ex m => Nat.ble n m
 | _ => Nat.ble n len
def evSl (T : TT) (t : Nat) (x : EV) (lo hi mx : Option Nat) : Option EV :=
 match T t with
 | some i => match i.d, x with
  | .string, .s s => match mx with
   | some _ => none
   | none => bif Nat.ble (hi.getD s.data.toList.length) s.data.toList.length && Nat.ble (lo.getD 0) (hi.getD s.data.toList.length) then some (.s ⟨((s.data.toList.drop (lo.getD 0)).take (hi.getD s.data.toList.length - lo.getD 0)).toArray⟩) else none
  | .slice e, .sl b off len k c => match T e with
   | some ie => bif (!mx.isSome || hi.isSome) && (fitsCp len (hi.getD len) c && (mx.elim true (fun m => fitsCp len m c && Nat.ble (hi.getD len) m) && Nat.ble (lo.getD 0) (hi.getD len))) then
     some (.sl b (off + lo.getD 0 * ie.size) (hi.getD len - lo.getD 0) k (cutCp k ie.size (lo.getD 0) mx c)) else none
   | none => none
  | .slice e, .ns => match T e, mx with
   | some _, none => bif Nat.beq (hi.getD 0) 0 && Nat.beq (lo.getD 0) 0 then some .ns else none
   | _, _ => none
  | .array n e, .p b off => match T e, mx with
   | some ie, none => bif Nat.ble (hi.getD n) n && Nat.ble (lo.getD 0) (hi.getD n) then some (.sl b (off + lo.getD 0 * ie.size) (hi.getD n - lo.getD 0) ie.size (.ex (n - lo.getD 0))) else none
   | _, _ => none
  | _, _ => none
 | none => none
section
variable {P : Program} {φ : Phi} {w : World} {T : TT} {I : Ghost} {H : Hp} {nx : Nat} {F : List (Nat × Obj)} {E : World}
theorem fitsCp_ok {q : PBk} {off k len n cap : Nat} {c : Cp} (h : fitsCp len n c = true) (hl : len ≤ cap) (hc : CapR q off k c cap) : n ≤ cap := by
 cases c with
 | ex m =>
  have hc : cap = m := hc
  have := Nat.le_of_ble_eq_true h
  omega
 | en => have := Nat.le_of_ble_eq_true h; omega
 | un => have := Nat.le_of_ble_eq_true h; omega
theorem evSl_ok (hT : TTok P T) {t : Nat} {x z : EV} {a : Value} {lo hi mx : Option Value} {lo' hi' mx' : Option Nat} (h : evSl T t x lo' hi' mx' = some z) (hx : RelV φ x a) (h1 : IntO lo lo') (h2 : IntO hi hi') (h3 : IntO mx mx') :
  ∃ v, (Instr.sliceAt t a lo hi mx).run P w = .ok v w ∧ RelV φ z v := by
 unfold evSl at h
 split at h
 ·rename_i i hi0
  have hTi := hT t i hi0
  split at h
  ·rename_i s hd
   have hu := hd ▸ hTi.und
   have hx : a = .string s := hx
   subst hx
   split at h
   ·cases h
   ·have hm : mx = none := by cases mx with
     | none => rfl
     | some _ => exact h3.elim
    subst hm
    cases hb : (Nat.ble (hi'.getD s.data.toList.length) s.data.toList.length && Nat.ble (lo'.getD 0) (hi'.getD s.data.toList.length)) with
    | false => rw [hb] at h; cases h
    | true =>
     rw [hb] at h; cases h
     simp only [q9] at hb
     have b1 := Nat.le_of_ble_eq_true hb.1
     have b2 := Nat.le_of_ble_eq_true hb.2
     have es : s.size = s.data.toList.length := by rw [Array.length_toList]; rfl
     have hbd := bounds_ok (P := P) (w := w) (s := false) (len := s.size) (cap := s.size) h1 h2 (mx' := none) (mx := none) trivial (by simp) (Nat.le_refl _) (by rw [es]; exact b1) (by rw [es]; exact b2)
     refine ⟨.string (s.extract (lo'.getD 0) (hi'.getD s.size)), ?_, by rw [extract_list, es]; rfl⟩
     simp only [Instr.sliceAt, Sem.run_bind, run_underlying hu, Result.andThen_ok, Instr.slice, Option.isSome_none, hbd]
     simp [hbd]
  ·rename_i e b off len k c hd
   have hu := hd ▸ hTi.und
   obtain ⟨q, o, cap, hq, rfl, g1, g2, g3⟩ := hx
   split at h
   ·rename_i ie hie
    have hTe := hT e ie hie
    cases hb : ((!mx'.isSome || hi'.isSome) && (fitsCp len (hi'.getD len) c && (mx'.elim true (fun m => fitsCp len m c && Nat.ble (hi'.getD len) m) && Nat.ble (lo'.getD 0) (hi'.getD len)))) with
    | false => rw [hb] at h; cases h
    | true =>
     rw [hb] at h; cases h
     simp only [q9] at hb
     obtain ⟨b0, b1, b2, b3⟩ := hb
     have b1 := fitsCp_ok b1 g1 g3
     have b3 := Nat.le_of_ble_eq_true b3
     have hm : mx'.getD cap ≤ cap ∧ hi'.getD len ≤ mx'.getD cap ∧ (mx'.isSome = true → hi'.isSome = true) := by
      cases mx' with
      | none => exact ⟨Nat.le_refl _, b1, fun h => by cases h⟩
      | some m =>
       simp only [Option.elim_some, q9] at b2
       exact ⟨fitsCp_ok b2.1 g1 g3, Nat.le_of_ble_eq_true b2.2, fun _ => by simpa using b0⟩
     have hbd := bounds_ok (P := P) (w := w) (s := true) (len := len) (cap := cap) h1 h2 h3 hm.2.2 hm.1 hm.2.1 b3
     refine ⟨.slice (if mx'.getD cap = lo'.getD 0 then some ⟨q.r, o, none⟩ else (some ⟨q.r, o, none⟩ : Option Addr).map (·.add (lo'.getD 0 * ie.size))) (hi'.getD len - lo'.getD 0) (mx'.getD cap - lo'.getD 0), ?_, q, ?_⟩
     ·simp only [Instr.sliceAt, Sem.run_bind, run_underlying hu, Result.andThen_ok, Instr.slice, hbd, hTe.sz]
      simp
     ·refine ⟨if mx'.getD cap = lo'.getD 0 then o else o + lo'.getD 0 * ie.size, mx'.getD cap - lo'.getD 0, hq, ?_, by omega, fun hne=>?_, ?_⟩
      ·split
       ·rfl
       ·simp [addr_add]
      ·rw [if_neg (by omega), g2 (by omega), Nat.add_assoc]
      ·cases mx' with
       | some m => exact rfl
       | none =>
        simp only [Option.getD_none]
        cases c with
        | ex m => exact congrArg (· - lo'.getD 0) (show cap = m from g3)
        | en =>
         unfold cutCp
         cases hk : Nat.beq k ie.size with
         | false => trivial
         | true =>
          have hk := Nat.eq_of_beq_eq_true hk
          subst hk
          have g3 : q.sh + off + cap * ie.size = q.κ := g3
          show q.sh + (off + lo'.getD 0 * ie.size) + (cap - lo'.getD 0) * ie.size = q.κ
          have hle : lo'.getD 0 ≤ cap := by omega
          have : lo'.getD 0 * ie.size + (cap - lo'.getD 0) * ie.size = cap * ie.size := by rw [← Nat.add_mul]; congr 1; omega
          omega
        | un => trivial
   ·cases h
  ·rename_i e hd
   have hu := hd ▸ hTi.und
   have hx : a = .slice none 0 0 := hx
   subst hx
   split at h
   ·rename_i ie hie
    have hTe := hT e ie hie
    cases hb : (Nat.beq (hi'.getD 0) 0 && Nat.beq (lo'.getD 0) 0) with
    | false => rw [hb] at h; cases h
    | true =>
     rw [hb] at h; cases h
     simp only [q9] at hb
     have b1 := Nat.eq_of_beq_eq_true hb.1
     have b2 := Nat.eq_of_beq_eq_true hb.2
     have hm : mx = none := by cases mx with
      | none => rfl
      | some _ => exact h3.elim
     subst hm
     have hbd := bounds_ok (P := P) (w := w) (s := true) (len := 0) (cap := 0) h1 h2 (mx' := none) (mx := none) trivial (by simp) (Nat.le_refl _) (by rw [b1]; exact Nat.le_refl _) (by rw [b2]; exact q5 _)
     refine ⟨.slice none 0 0, ?_, Z⟩
     simp only [Instr.sliceAt, Sem.run_bind, run_underlying hu, Result.andThen_ok, Instr.slice, hbd, hTe.sz]
     rw [b1, b2]; simp
   ·cases h
  ·rename_i n e b off hd
   have hu := hd ▸ hTi.und
   obtain ⟨q, hq, rfl⟩ := hx
   split at h
   ·rename_i ie hie
    have hTe := hT e ie hie
    cases hb : (Nat.ble (hi'.getD n) n && Nat.ble (lo'.getD 0) (hi'.getD n)) with
    | false => rw [hb] at h; cases h
    | true =>
     rw [hb] at h; cases h
     simp only [q9] at hb
     have b1 := Nat.le_of_ble_eq_true hb.1
     have b2 := Nat.le_of_ble_eq_true hb.2
     have hm : mx = none := by cases mx with
      | none => rfl
      | some _ => exact h3.elim
     subst hm
     have hbd := bounds_ok (P := P) (w := w) (s := false) (len := n) (cap := n) h1 h2 (mx' := none) (mx := none) trivial (by simp) (Nat.le_refl _) b1 b2
     simp only [Option.getD_none] at hbd
     refine ⟨.slice (some (if n = lo'.getD 0 then ⟨q.r, q.sh + off, none⟩ else (⟨q.r, q.sh + off, none⟩ : Addr).add (lo'.getD 0 * ie.size))) (hi'.getD n - lo'.getD 0) (n - lo'.getD 0), ?_, q, if n = lo'.getD 0 then q.sh + off else q.sh + off + lo'.getD 0 * ie.size, n - lo'.getD 0, hq, ?_, by omega, fun hne=>?_, rfl⟩
     ·simp [Instr.sliceAt, run_underlying hu, Instr.sureAddr, hbd, hTe.sz]
     ·split
      ·rfl
      ·simp [addr_add]
     ·rw [if_neg (by omega), Nat.add_assoc]
   ·cases h
  ·cases h
 ·cases h
end
def fillE (place : Nat → Option (Nat × Nat)) : List EV → List (Nat × EV) → Option (List EV)
 | cells, [] => some cells
 | cells, (i, x) :: rest =>
  match place i with
  | none => none
  | some (off, size) => bif x.sto && (Nat.beq x.cs.length size && Nat.ble (off + size) cells.length) then fillE place (cells.take off ++ (x.cs ++ cells.drop (off + size))) rest else none
theorem fillE_ok {φ : Phi} {place : Nat → Option (Nat × Nat)} : ∀ (l : List (Nat × Value)) (cps : List (Nat × EV)) (cells : List EV) (vcells : Array Value) (rs : List EV),
  cps.map (·.1) = l.map (·.1) → RelVs φ (cps.map (·.2)) (l.map (·.2)) → RelVs φ cells vcells.toList → fillE place cells cps = some rs →
  ∃ vc, Instr.fill place vcells l = some vc ∧ RelVs φ rs vc.toList
 | [], [], cells, vcells, rs, _, _, h, hf => ⟨vcells, rfl, by cases hf; exact h⟩
 | [], _ :: _, _, _, _, h, _, _, _ => by cases h
 | _ :: _, [], _, _, _, h, _, _, _ => by cases h
 | (i, v) :: l, (i', x) :: cps, cells, vcells, rs, hk, hp, h, hf => by
  simp only [List.map_cons, List.cons.injEq] at hk
  obtain ⟨rfl, hk⟩ := hk
  obtain ⟨v', us, e, hx, hp⟩ := hp
  cases e
  unfold fillE at hf
  unfold Instr.fill
  cases hpl : place i' with
  | none => rw [hpl] at hf; cases hf
  | some os =>
   obtain ⟨off, size⟩ := os
   rw [hpl] at hf
   simp only at hf ⊢
   cases hb : (x.sto && (Nat.beq x.cs.length size && Nat.ble (off + size) cells.length)) with
   | false => rw [hb] at hf; cases hf
   | true =>
    rw [hb] at hf
    simp only [cond_true] at hf
    simp only [q9] at hb
    have hx := EV.cs_rel hx hb.1
    have hxl := hx.length
    have hcl := h.length
    simp only [Array.length_toList] at hxl hcl
    have e1 := Nat.eq_of_beq_eq_true hb.2.1
    have e2 := Nat.le_of_ble_eq_true hb.2.2
    rw [if_neg (show ¬ ((v.cells.size ≠ size || off + v.cells.size > vcells.size) = true) by simp; omega)]
    have hfold := foldl_set off v.cells.toList 0 vcells (by simp; omega)
    simp only [Nat.add_zero] at hfold
    have hfa : (v.cells.zipIdx.foldl (fun cs (x : Value × Nat) => cs.setIfInBounds (off + x.2) x.1) vcells).toList = vcells.toList.take off ++ v.cells.toList ++ vcells.toList.drop (off + size) := by
     rw [← Array.foldl_toList]
     have : v.cells.zipIdx.toList = v.cells.toList.zipIdx 0 := by simp
     have hlen : v.cells.toList.length = size := by rw [Array.length_toList]; omega
     rw [this, hfold, hlen]
    refine fillE_ok l cps _ _ rs hk hp ?_ hf
    rw [hfa, List.append_assoc]
    exact (h.take off).append (hx.append (h.drop _))
def placesE (T : TT) : List Field → Option (List (Nat × Nat))
 | [] => some []
 | f :: fs => match T f.type, placesE T fs with
  | some i, some l => some ((f.offset, i.size) :: l)
  | _, _ => none
theorem placesE_ok {P : Program} {T : TT} {w : World} (hT : TTok P T) : ∀ (fs : List Field) (l : List (Nat × Nat)), placesE T fs = some l → (fs.mapM (m := Sem) fun f => do pure (f.offset, ← sizeOf f.type)).run P w = .ok l w
 | [], l, h => by cases h; rfl
 | f :: fs, l, h => by
  unfold placesE at h
  split at h
  ·rename_i i l' hi hl'
   cases h
   have h2 := placesE_ok (w := w) hT fs l' hl'
   rw [List.mapM_cons]
   simp only [Sem.run_bind, (hT _ _ hi).sz, Result.andThen_ok, Sem.run_pure, h2]
  ·cases h
def evBuild (T : TT) (t : Nat) (ks : List Nat) (vs : List EV) : Option EV :=
 match T t with
 | some i => match i.d with
  | .struct fs => match placesE T fs.toList with
   | some pl => (fillE (fun k => pl[k]?) i.z (ks.zip vs)).map EV.ag
   | none => none
  | .array _ e => match T e with
   | some ie => (fillE (fun k => some (k * ie.size, ie.size)) i.z (ks.zip vs)).map EV.ag
   | none => none
  | _ => none
 | none => none
theorem zip_fst {α β : Type} : ∀ (a : List α) (b : List β), a.length = b.length → (a.zip b).map (·.1) = a
 | [], _, _ => rfl
 | _ :: _, [], h => by simp at h
 | x :: a, y :: b, h => by rw [List.zip_cons_cons, List.map_cons, zip_fst a b (by simpa using h)]
theorem zip_snd {α β : Type} : ∀ (a : List α) (b : List β), a.length = b.length → (a.zip b).map (·.2) = b
 | [], [], _ => rfl
 | [], _ :: _, h => by simp at h
 | _ :: _, [], _ => rfl
 | x :: a, y :: b, h => by rw [List.zip_cons_cons, List.map_cons, zip_snd a b (by simpa using h)]
theorem evBuild_ok {P : Program} {φ : Phi} {w : World} {T : TT} (hT : TTok P T) {t : Nat} {parts : List (Nat × Value)} {vs : List EV} {z : EV} (h : evBuild T t (parts.map (·.1)) vs = some z) (hv : RelVs φ vs (parts.map (·.2))) :
  ∃ v, (Instr.build t parts.toArray).run P w = .ok v w ∧ RelV φ z v := by
 have hl : (parts.map (·.1)).length = vs.length := by have := hv.length; simp at this ⊢; exact this
 unfold evBuild at h
 split at h
 ·rename_i i hi
  have hTi := hT t i hi
  obtain ⟨zv, hz, hzr, _⟩ := hTi.zero
  split at h
  ·rename_i fs hd
   have hu := hd ▸ hTi.und
   split at h
   ·rename_i pl hpl
    obtain ⟨rs, hrs, rfl⟩ := Option.map_eq_some_iff.1 h
    obtain ⟨vc, h1, h2⟩ := fillE_ok (place := fun k => pl[k]?) parts _ i.z zv.cells rs (zip_fst _ _ hl) (by rw [zip_snd _ _ hl]; exact hv) (hzr φ) hrs
    refine ⟨.agg vc, ?_, vc.toList, by simp, h2⟩
    have hp := placesE_ok (w := w) hT fs.toList pl hpl
    have hp2 : (fs.mapM (m := Sem) fun f => do pure (f.offset, ← sizeOf f.type)).run P w = .ok pl.toArray w := by
     rw [Array.mapM_eq_mapM_toList, Sem.run_map, hp]; rfl
    unfold Instr.build
    simp only [Sem.run_bind, hz, Result.andThen_ok, run_underlying hu, hp2]
    have h1 : Instr.fill (fun x => pl.toArray[x]?) zv.cells parts = some vc := by simpa using h1
    rw [h1]; rfl
   ·cases h
  ·rename_i n e hd
   have hu := hd ▸ hTi.und
   split at h
   ·rename_i ie hie
    obtain ⟨rs, hrs, rfl⟩ := Option.map_eq_some_iff.1 h
    obtain ⟨vc, h1, h2⟩ := fillE_ok (place := fun k => some (k * ie.size, ie.size)) parts _ i.z zv.cells rs (zip_fst _ _ hl) (by rw [zip_snd _ _ hl]; exact hv) (hzr φ) hrs
    refine ⟨.agg vc, ?_, vc.toList, by simp, h2⟩
    unfold Instr.build
    simp only [Sem.run_bind, hz, Result.andThen_ok, run_underlying hu, (hT e ie hie).sz, h1]
    rfl
   ·cases h
  ·cases h
 ·cases h
def noIf : TypeDesc → Bool
 | .interface _ => false
 | _ => true
def evIfc (T : TT) (t : Nat) (x : EV) : Option EV :=
 match T t with
 | some i => bif noIf i.d then some (.ifc t x) else none
 | none => none
def evConv (T : TT) (s d : Nat) (x : EV) : Option EV :=
 match T s, T d, x with
 | some is_, some id_, .i _ n => match is_.d, id_.d with
  | .int _, .int k => some (.i k (k.wrap n))
  | _, _ => none
 | some is_, some id_, .s b => match is_.d, id_.d with
  | .string, .string => some (.s b)
  | _, _ => none
 | _, _, _ => none
def evLen (T : TT) (t : Nat) (x : EV) : Option EV :=
 match T t, x with
 | some i, x => match i.d, x with
  | .string, .s b => some (.i .i64 b.data.toList.length)
  | .slice _, .sl _ _ n _ _ => some (.i .i64 n)
  | .slice _, .ns => some (.i .i64 0)
  | _, _ => none
 | _, _ => none
def evCap (T : TT) (t : Nat) (x : EV) : Option EV :=
 match T t, x with
 | some i, x => match i.d, x with
  | .slice _, .sl _ _ _ _ (.ex m) => some (.i .i64 m)
  | .slice _, .ns => some (.i .i64 0)
  | _, _ => none
 | _, _ => none
section
variable {P : Program} {φ : Phi} {w : World} {T : TT} {ty : TypeId}
theorem evIfc_ok (hT : TTok P T) {t : Nat} {x z : EV} {a : Value} (h : evIfc T t x = some z) (hx : RelV φ x a) : ∃ v, (Instr.makeInterface t a).run P w = .ok v w ∧ RelV φ z v := by
 unfold evIfc at h
 split at h
 ·rename_i i hi
  have hu := (hT t i hi).und
  cases hd : noIf i.d with
  | false => rw [hd] at h; cases h
  | true =>
   rw [hd] at h; cases h
   refine ⟨.iface t a, ?_, a, Z, hx⟩
   unfold Instr.makeInterface
   rw [Sem.run_bind, run_underlying hu]
   revert hd
   cases i.d <;> intro hd <;> first | rfl | cases hd
 ·cases h
theorem evConv_ok (hT : TTok P T) {s d : Nat} {x z : EV} {a : Value} (h : evConv T s d x = some z) (hx : RelV φ x a) : ∃ v, (convert s d a).run P w = .ok v w ∧ RelV φ z v := by
 unfold evConv at h
 split at h
 ·rename_i i1 i2 k n h1 h2
  have hx : a = .int k n := hx
  subst hx
  split at h
  ·rename_i k1 k2 e1 e2
   cases h
   have u1 := e1 ▸ (hT s i1 h1).und
   have u2 := e2 ▸ (hT d i2 h2).und
   exact ⟨_, by simp [convert, run_underlying u1, run_underlying u2, Conv.intToInt], rfl⟩
  ·cases h
 ·rename_i i1 i2 b h1 h2
  have hx : a = .string b := hx
  subst hx
  split at h
  ·rename_i e1 e2
   cases h
   have u1 := e1 ▸ (hT s i1 h1).und
   have u2 := e2 ▸ (hT d i2 h2).und
   exact ⟨_, by simp [convert, run_underlying u1, run_underlying u2], rfl⟩
  ·cases h
 ·cases h
theorem evLen_ok (hT : TTok P T) {t : Nat} {x z : EV} {a : Value} (h : evLen T t x = some z) (hx : RelV φ x a) : ∃ v, (Builtin.len_ #[t] ty #[a]).run P w = .ok v w ∧ RelV φ z v := by
 unfold evLen at h
 split at h
 ·rename_i i hi
  have hu := (hT t i hi).und
  split at h
  ·rename_i b hd
   have hx : a = .string b := hx
   cases h; subst hx
   rw [hd] at hu
   exact ⟨.int .i64 b.size, by simp [Builtin.len_, run_underlying hu, goInt], by show Value.int .i64 _ = Value.int .i64 _; rw [Array.length_toList]; rfl⟩
  ·rename_i e _ _ n _ _ hd
   obtain ⟨_, _, _, _, rfl, _⟩ := hx
   cases h
   rw [hd] at hu
   exact ⟨.int .i64 n, by simp [Builtin.len_, run_underlying hu, goInt], rfl⟩
  ·rename_i e hd
   have hx : a = .slice none 0 0 := hx
   cases h; subst hx
   rw [hd] at hu
   exact ⟨.int .i64 0, by simp [Builtin.len_, run_underlying hu, goInt], rfl⟩
  ·cases h
 ·cases h
theorem evCap_ok (hT : TTok P T) {t : Nat} {x z : EV} {a : Value} (h : evCap T t x = some z) (hx : RelV φ x a) : ∃ v, (Builtin.cap_ #[t] ty #[a]).run P w = .ok v w ∧ RelV φ z v := by
 unfold evCap at h
 split at h
 ·rename_i i hi
  have hu := (hT t i hi).und
  split at h
  ·rename_i e _ _ n _ m hd
   obtain ⟨_, _, cap, _, rfl, _, _, hc⟩ := hx
   have hc : cap = m := hc
   cases h; subst hc
   rw [hd] at hu
   exact ⟨.int .i64 cap, by simp [Builtin.cap_, run_underlying hu, goInt], rfl⟩
  ·rename_i e hd
   have hx : a = .slice none 0 0 := hx
   cases h; subst hx
   rw [hd] at hu
   exact ⟨.int .i64 0, by simp [Builtin.cap_, run_underlying hu, goInt], rfl⟩
  ·cases h
 ·cases h
end
end Go.Proofs.YtoicilchhkndmaaGreatDoor
namespace Go.Proofs.YtoicilchhkndmaaGreatDoor
open Go.Proofs
theorem vs_get {α : Type} [Inhabited α] (c : Enc α) : ∀ (l : List α) (t : Nat), t < l.length * c.k → (c.vs l)[t]? = some (c.val l[t / c.k]!)[t % c.k]!
 | [], t, h => by simp at h
 | x :: l, t, h => by
  have e : c.vs (x :: l) = c.val x ++ c.vs l := by unfold Enc.vs; rw [List.flatMap_cons]
  rw [e]
  by_cases ht : t < c.k
  ·rw [List.getElem?_append_left (by rw [c.len]; exact ht), Nat.div_eq_of_lt ht, Nat.mod_eq_of_lt ht, List.getElem!_cons_zero, q3 (by rw [c.len]; exact ht), getElem!_pos (c.val x) t (by rw [c.len]; exact ht)]
  ·obtain ⟨s, rfl⟩ : ∃ s, t = s + c.k := ⟨t - c.k, by omega⟩
   rw [List.getElem?_append_right (by rw [c.len]; omega), c.len, Nat.add_sub_cancel, Nat.add_div_right _ c.pos, Nat.add_mod_right, List.getElem!_cons_succ]
   exact vs_get c l s (by rw [List.length_cons, Nat.add_mul, Nat.one_mul] at h; omega)
theorem madeCells_k (zl : List Value) (m : Nat) (h0 : 0 < zl.length) (h1 : ∀ u ∈ zl, u.oneCell' = true) : madeCells zl.toArray (m * zl.length) = (List.replicate m zl).flatten.toArray := by
 let c : Enc Unit := ⟨zl.length, fun _ => zl, h0, fun _ => rfl, fun _ => h1⟩
 have e : (List.replicate m zl).flatten = c.vs (List.replicate m ()) := by
  show _ = (List.replicate m ()).flatMap fun _ => zl
  rw [List.flatMap, List.map_replicate]
 rw [e]
 apply Array.ext_getElem?
 intro t
 have e3 : (c.vs (List.replicate m ())).toArray[t]? = (c.vs (List.replicate m ()))[t]? := List.getElem?_toArray
 rw [e3]
 by_cases ht : t < m * zl.length
 ·rw [vs_get c _ t (by rw [List.length_replicate]; exact ht)]
  unfold madeCells
  rw [Array.getElem?_map, Array.getElem?_range, if_pos ht]
  show some (zl.toArray[t % zl.toArray.size]!) = some (zl[t % zl.length]!)
  simp
 ·rw [Array.getElem?_eq_none (by rw [size_madeCells]; omega), List.getElem?_eq_none (by rw [c.vs_len, List.length_replicate]; show m * zl.length ≤ t; omega)]
section
variable {E : World} {P : Program} {ops : Array Oper} {K : AEnv → OL → Prop} {env : AEnv} {O : OL} {rest : List Oper} {d ty : Nat} {pos : String} {af : Array Edge} {x y : Operand} {t e : TypeId}
end
end Go.Proofs.YtoicilchhkndmaaGreatDoor
namespace Go.Proofs.YtoicilchhkndmaaGreatDoor
def mpO {α β : Type} (f : α → Option β) : List α → Option (List β)
 | [] => some []
 | x :: l => match f x, mpO f l with
  | some y, some m => some (y :: m)
  | _, _ => none
theorem mpO_rel {φ : Phi} {α : Type} {f : α → Option EV} {g : α → Value} (h : ∀ x a, f x = some a → RelV φ a (g x)) : ∀ (l : List α) (m : List EV), mpO f l = some m → RelVs φ m (l.map g)
 | [], m, e => by cases e; rfl
 | x :: l, m, e => by
  unfold mpO at e
  split at e
  ·rename_i y m' h1 h2
   cases e
   exact ⟨_, _, rfl, h x y h1, mpO_rel h l m' h2⟩
  ·cases e
def litE : Nat → Value → Option EV
 | 0, _ => none
 | n + 1, v => match v with
  | .bool b => some (.b b)
  | .int k i => some (.i k i)
  | .string s => some (.s s)
  | .pointer none => some .np
  | .slice none 0 0 => some .ns
  | .map none => some .nm
  | .nilFunc => some .nf
  | .nilIface => some .ni
  | .agg cs => (mpO (litE n) cs.toList).map EV.ag
  | _ => none
theorem litE_ok {φ : Phi} : ∀ (n : Nat) (v : Value) (a : EV), litE n v = some a → RelV φ a v
 | 0, _, _, h => by cases h
 | n + 1, v, a, h => by
  unfold litE at h
  split at h
  case h_9 cs =>
   obtain ⟨m, hm, rfl⟩ := Option.map_eq_some_iff.1 h
   have := mpO_rel (φ := φ) (g := id) (litE_ok n) cs.toList m hm
   exact ⟨cs.toList, by simp, by simpa using this⟩
  all_goals first | (cases h; rfl) | cases h
def evO (g : Nat → EV) : Operand → Option EV
 | .tmp t => some (g t)
 | .const v => litE 5 v
 | .func f => some (.fn f [] [])
 | .global _ => none
section
variable {φ : Phi} {g : Nat → EV} {ρ : Env}
theorem evO_ok (hg : RelE φ g ρ) {x : Operand} {a : EV} (h : evO g x = some a) : RelV φ a (ev ρ x) := by
 cases x <;> simp only [evO] at h
 ·cases h; exact hg _
 ·exact litE_ok _ _ _ h
 ·cases h
 ·cases h; exact ⟨[], [], rfl, rfl, rfl⟩
theorem evOs_ok (hg : RelE φ g ρ) {l : List Operand} {m : List EV} (h : mpO (evO g) l = some m) : RelVs φ m (l.map (ev ρ)) := mpO_rel (fun _ _ => evO_ok hg) l m h
end
def evON (g : Nat → EV) : Option Operand → Option (Option Nat)
 | none => some none
 | some x => match evO g x with
  | some (.i _ n) => (natOf n).map some
  | _ => none
theorem evON_ok {φ : Phi} {g : Nat → EV} {ρ : Env} (hg : RelE φ g ρ) {x : Option Operand} {n : Option Nat} (h : evON g x = some n) : IntO (x.map (ev ρ)) n := by
 cases x with
 | none => cases h; trivial
 | some x =>
  unfold evON at h
  dsimp only at h
  split at h
  ·rename_i k i hx
   obtain ⟨j, hj, rfl⟩ := Option.map_eq_some_iff.1 h
   have := evO_ok hg hx
   exact ⟨k, by rw [show ev ρ x = .int k i from this, natOf_ok hj]⟩
  ·cases h
def evEq (T : TT) : Nat → TypeId → EV → EV → Option Bool
 | 0, _, _, _ => none
 | n + 1, t, x, y => match T t with
  | some i => match i.d, x, y with
   | .bool, .b a, .b c => some (a == c)
   | .int _, .i k a, .i k' c => if k = k' then some (a == c) else none
   | .string, .s a, .s c => some (beqS a c)
   | .array len e, .ag xs, .ag ys => match T e with
    | some ie => (mpO (fun j => match evPart T e xs (j * ie.size), evPart T e ys (j * ie.size) with
     | some a, some c => evEq T n e a c
     | _, _ => none) (List.range len)).map fun l => l.all id
    | none => none
   | _, _, _ => none
  | none => none
theorem forIn_all {P : Program} {body : Nat → Option Bool × Unit → Sem (ForInStep (Option Bool × Unit))} {w : World} : ∀ (l : List Nat) (bs : List Bool), bs.length = l.length →
  (∀ (j i : Nat) b, l[j]? = some i → bs[j]? = some b → (body i (none, ())).run P w = .ok (if b = true then .yield (none, ()) else .done (some false, ())) w) →
  (forIn l ((none, ()) : Option Bool × Unit) body).run P w = .ok (if bs.all id = true then (none, ()) else (some false, ())) w
 | [], bs, hl, _ => by
  have : bs = [] := List.eq_nil_of_length_eq_zero hl
  subst this
  rfl
 | i :: l, [], hl, _ => by cases hl
 | i :: l, b :: bs, hl, h => by
  rw [List.forIn_cons, Sem.run_bind, h 0 i b rfl rfl]
  cases b with
  | true =>
   simp only [if_pos, Result.andThen_ok]
   rw [forIn_all l bs (by simpa using hl) fun j i' b' h1 h2 => h (j + 1) i' b' h1 h2]
   simp
  | false => simp
theorem evEq_ok {P : Program} {φ : Phi} {T : TT} (hT : TTok P T) {w : World} : ∀ (n : Nat) (t : TypeId) (x y : EV) (a c : Value) (b : Bool), evEq T n t x y = some b → RelV φ x a → RelV φ y c → ∀ d, n ≤ d → (Op.equalIn d t a c).run P w = .ok b w
 | 0, _, _, _, _, _, _, h, _, _, _, _ => by cases h
 | n + 1, t, x, y, a, c, b, h, hx, hy, d, hd => by
  obtain ⟨d, rfl⟩ : ∃ d', d = d' + 1 := ⟨d - 1, by omega⟩
  unfold evEq at h
  split at h
  ·rename_i i hi
   have hu := (hT t i hi).und
   split at h
   ·rename_i a' c' hdd
    rw [hdd] at hu
    have hx : a = .bool a' := hx
    have hy : c = .bool c' := hy
    cases h; subst hx hy
    simp [Op.equalIn, run_underlying hu]
   ·rename_i k0 k a' k' c' hdd
    rw [hdd] at hu
    have hx : a = .int k a' := hx
    have hy : c = .int k' c' := hy
    subst hx hy
    split at h
    ·rename_i e
     subst e
     cases h
     simp [Op.equalIn, run_underlying hu]
    ·cases h
   ·rename_i a' c' hdd
    rw [hdd] at hu
    have hx : a = .string a' := hx
    have hy : c = .string c' := hy
    cases h; subst hx hy
    have e : (a' == c') = decide (a' = c') := by
     cases hb : (a' == c') with
     | true => rw [decide_eq_true ((MapKept.bytes_beq a' c').1 hb)]
     | false => rw [decide_eq_false fun q => by rw [(MapKept.bytes_beq a' c').2 q] at hb; cases hb]
    rw [beqS_eq, ← e]
    simp [Op.equalIn, run_underlying hu]
   ·rename_i len e xs ys hdd
    rw [hdd] at hu
    obtain ⟨vs, rfl, hv⟩ := hx
    obtain ⟨us, rfl, hu2⟩ := hy
    split at h
    ·rename_i ie hie
     have hTe := hT e ie hie
     obtain ⟨bs, hbs, rfl⟩ := Option.map_eq_some_iff.1 h
     have hget : ∀ (l : List Nat) (bs : List Bool), mpO (fun j => match evPart T e xs (j * ie.size), evPart T e ys (j * ie.size) with
       | some a, some c => evEq T n e a c
       | _, _ => none) l = some bs → bs.length = l.length ∧ ∀ (j i : Nat) b, l[j]? = some i → bs[j]? = some b → ∃ p q, evPart T e xs (i * ie.size) = some p ∧ evPart T e ys (i * ie.size) = some q ∧ evEq T n e p q = some b := by
      intro l
      induction l with
      | nil => intro bs hb; cases hb; exact ⟨rfl, fun j i b h => by simp at h⟩
      | cons i0 l ih =>
       intro bs hb
       unfold mpO at hb
       split at hb
       ·rename_i y m h1 h2
        cases hb
        obtain ⟨g1, g2⟩ := ih m h2
        refine ⟨by simp [g1], fun j i b h3 h4 => ?_⟩
        cases j with
        | zero =>
         simp only [List.getElem?_cons_zero, Option.some.injEq] at h3 h4
         subst h3 h4
         split at h1
         ·rename_i p q e1 e2; exact ⟨p, q, e1, e2, h1⟩
         ·cases h1
        | succ j => simp only [List.getElem?_cons_succ] at h3 h4; exact g2 j i b h3 h4
       ·cases hb
     obtain ⟨g1, g2⟩ := hget _ _ hbs
     rw [Op.equalIn]
     simp only [Sem.run_bind, run_underlying hu, Result.andThen_ok, hTe.sz]
     rw [Std.Legacy.Range.forIn_eq_forIn_range']
     have hr : List.range' 0 (Std.Legacy.Range.size [:len]) 1 = List.range len := by
      simp [Std.Legacy.Range.size, List.range_eq_range']
     rw [show List.range' ([:len] : Std.Legacy.Range).start ([:len] : Std.Legacy.Range).size ([:len] : Std.Legacy.Range).step = List.range len from hr]
     rw [forIn_all (List.range len) bs g1 fun j i b h1 h2 => by
      obtain ⟨p, q, e1, e2, e3⟩ := g2 j i b h1 h2
      obtain ⟨v1, k1, k2⟩ := evPart_ok (w := w) hT e1 hv
      obtain ⟨v2, k3, k4⟩ := evPart_ok (w := w) hT e2 hu2
      have k5 := evEq_ok (w := w) hT n e p q v1 v2 b e3 k2 k4 d (by omega)
      simp only [Sem.run_bind, k1, k3, k5, Result.andThen_ok]
      cases b <;> rfl]
     cases hall : bs.all id <;> simp
    ·cases h
   ·cases h
  ·cases h
def evP (T : TT) (g : Nat → EV) (op : Op) : Option EV :=
 match op with
 | .move x | .assign x => evO g x
 | .pick c a b => match evO g c with
  | some (.b t) => bif t then evO g a else evO g b
  | _ => none
 | .binOp op t x y _ => match evO g x, evO g y with
  | some a, some b => match evBin T op t y a b with
   | some z => some z
   | none => match op, a, b, T t with
    | .eql, .ag l, .ag m, some i => bif i.g then (evEq T 9 t (.ag l) (.ag m)).map EV.b else none
    | .neq, .ag l, .ag m, some i => bif i.g then (evEq T 9 t (.ag l) (.ag m)).map fun z => .b (!z) else none
    | _, _, _, _ => none
  | _, _ => none
 | .unOp op _ x => match evO g x with
  | some a => evUn op a
  | none => none
 | .extract x i => match evO g x with
  | some (.tu l) => l[i]?
  | _ => none
 | .nilCheck x => match evO g x with
  | some (.p b off) => some (.p b off)
  | _ => none
 | .fieldAddr t x f => match evO g x with
  | some (.p b off) => evFAddr T t f b off
  | _ => none
 | .field t x f => match evO g x with
  | some (.ag cs) => evField T t f cs
  | _ => none
 | .indexAddr t x y => match evO g x, evO g y with
  | some a, some (.i _ n) => evIdxA T t a n
  | _, _ => none
 | .index t x y => match evO g x, evO g y with
  | some a, some (.i _ n) => evIdx T t a n
  | _, _ => none
 | .build t ps => match mpO (fun p : Nat × Operand => evO g p.2) ps.toList with
  | some vs => evBuild T t (ps.toList.map (·.1)) vs
  | none => none
 | .slice t x lo hi mx => match evO g x, evON g lo, evON g hi, evON g mx with
  | some a, some lo', some hi', some mx' => evSl T t a lo' hi' mx'
  | _, _, _, _ => none
 | .convert s d x => match evO g x with
  | some a => evConv T s d a
  | none => none
 | .makeInterface t x => match evO g x with
  | some a => evIfc T t a
  | none => none
 | .makeFunc (.func f) a c => match mpO (evO g) a.toList, mpO (evO g) c.toList with
  | some l, some m => some (.fn f l m)
  | _, _ => none
 | .typeAssert x _ A ok => match evO g x, T A with
  | some (.ifc t v), some i => bif noIf i.d then (bif Nat.beq t A then some (bif ok then .tu [v, .b true] else v) else bif ok then some (.tu [i.v, .b false]) else none) else none
  | some .ni, some i => bif noIf i.d && ok then some (.tu [i.v, .b false]) else none
  | _, _ => none
 | .call ⟨.builtin .len, ar, ts⟩ => match ar.toList, ts.toList with
  | [x], [t] => match evO g x with
   | some a => evLen T t a
   | none => none
  | _, _ => none
 | .call ⟨.builtin .cap, ar, ts⟩ => match ar.toList, ts.toList with
  | [x], [t] => match evO g x with
   | some a => evCap T t a
   | none => none
  | _, _ => none
 | .call ⟨.builtin .min, ar, _⟩ => match ar.toList with
  | [x, y] => match evO g x, evO g y with
   | some (.i k a), some (.i k' b) => if k = k' then some (.i k (if b < a then b else a)) else none
   | _, _ => none
  | _ => none
 | _ => none
theorem run_v {P : Program} {s : Sem Value} {v : Value} {w w' : World} (h : s.run P w = .ok v w') : (do pure (Next.value (← s)) : Sem Next).run P w = .ok (.value v) w' := by
 rw [Sem.run_bind, h]; rfl
theorem arr1 {α : Type} {a : Array α} {x : α} (h : a.toList = [x]) : a = #[x] := Array.toList_inj.1 h
theorem arr2 {α : Type} {a : Array α} {x y : α} (h : a.toList = [x, y]) : a = #[x, y] := Array.toList_inj.1 h
section
variable {P : Program} {φ : Phi} {g : Nat → EV} {ρ : Env} {w : World} {T : TT}
theorem evP_ok (hT : TTok P T) (hg : RelE φ g ρ) {o : Oper} {x : EV} (h : evP T g o.op = some x) : ∃ v, (execOp (ev ρ) o).run P w = .ok (.value v) w ∧ RelV φ x v := by
 obtain ⟨dst, op, ty, pos, af, gu⟩ := o
 dsimp only at h
 unfold evP at h
 split at h
 ·exact ⟨_, rfl, evO_ok hg h⟩
 ·exact ⟨_, rfl, evO_ok hg h⟩
 ·split at h
  ·rename_i c a b _ t hc
   have hc : ev ρ c = .bool t := evO_ok hg hc
   cases t
   ·exact ⟨_, by simp [execOp, hc, asBool], evO_ok hg h⟩
   ·exact ⟨_, by simp [execOp, hc, asBool], evO_ok hg h⟩
  ·cases h
 ·split at h
  ·rename_i op t x y u _ _ a b hx hy
   split at h
   ·rename_i z hz
    cases h
    obtain ⟨v, h1, h2⟩ := evBin_ok (w := w) (p := x) hT hz (evO_ok hg hx) (evO_ok hg hy)
    exact ⟨v, run_v h1, h2⟩
   ·split at h
    ·rename_i l m i hi _
     cases hgd : i.g with
     | false => rw [hgd] at h; cases h
     | true =>
      rw [hgd] at h
      obtain ⟨r, hr, rfl⟩ := Option.map_eq_some_iff.1 h
      obtain ⟨vs, e1, h1⟩ := evO_ok hg hx
      obtain ⟨us, e2, h2⟩ := evO_ok hg hy
      have he := evEq_ok (w := w) hT 9 t _ _ _ _ r hr ⟨vs, e1, h1⟩ ⟨us, e2, h2⟩ 10000 (by omega)
      have hgg := (hT t i hi).gd hgd
      refine ⟨.bool r, ?_, Z⟩
      rw [e1, e2] at he
      simp only [execOp, e1, e2]
      simp [run_eqGuard_agg w .eql t x y vs.toArray us.toArray hgg, run_eql_struct, he]
    ·rename_i l m i hi _
     cases hgd : i.g with
     | false => rw [hgd] at h; cases h
     | true =>
      rw [hgd] at h
      obtain ⟨r, hr, rfl⟩ := Option.map_eq_some_iff.1 h
      obtain ⟨vs, e1, h1⟩ := evO_ok hg hx
      obtain ⟨us, e2, h2⟩ := evO_ok hg hy
      have he := evEq_ok (w := w) hT 9 t _ _ _ _ r hr ⟨vs, e1, h1⟩ ⟨us, e2, h2⟩ 10000 (by omega)
      have hgg := (hT t i hi).gd hgd
      refine ⟨.bool (!r), ?_, Z⟩
      rw [e1, e2] at he
      simp only [execOp, e1, e2]
      simp [run_eqGuard_agg w .neq t x y vs.toArray us.toArray hgg, run_neq_struct, he]
    ·cases h
  ·cases h
 ·split at h
  ·rename_i a hx
   obtain ⟨v, h1, h2⟩ := evUn_ok (P := P) (w := w) h (evO_ok hg hx)
   exact ⟨v, run_v h1, h2⟩
  ·cases h
 ·split at h
  ·rename_i x i _ l hx
   obtain ⟨vs, he, h1⟩ := evO_ok hg hx
   obtain ⟨v, h2, h3⟩ := h1.get h
   refine ⟨v, run_v ?_, h3⟩
   rw [he]
   simp [Instr.extract, h2]
  ·cases h
 ·split at h
  ·rename_i x _ b off hx
   cases h
   obtain ⟨q, hq, he⟩ := evO_ok hg hx
   exact ⟨_, by simp [execOp, he], q, hq, rfl⟩
  ·cases h
 ·split at h
  ·rename_i hx
   obtain ⟨v, h1, h2⟩ := evFAddr_ok (w := w) hT h (evO_ok hg hx)
   exact ⟨v, run_v h1, h2⟩
  ·cases h
 ·split at h
  ·rename_i hx
   obtain ⟨v, h1, h2⟩ := evField_ok (w := w) hT h (evO_ok hg hx)
   exact ⟨v, run_v h1, h2⟩
  ·cases h
 ·split at h
  ·rename_i hx hy
   obtain ⟨v, h1, h2⟩ := evIdxA_ok (w := w) hT h (evO_ok hg hx) (evO_ok hg hy)
   exact ⟨v, run_v h1, h2⟩
  ·cases h
 ·split at h
  ·rename_i hx hy
   obtain ⟨v, h1, h2⟩ := evIdx_ok (w := w) hT h (evO_ok hg hx) (evO_ok hg hy)
   exact ⟨v, run_v h1, h2⟩
  ·cases h
 ·split at h
  ·rename_i t ps _ vs hx
   have h1 := mpO_rel (φ := φ) (g := fun p : Nat × Operand => ev ρ p.2) (fun p a hp => evO_ok hg hp) ps.toList vs hx
   obtain ⟨v, h2, h3⟩ := evBuild_ok (w := w) (parts := ps.toList.map fun p => (p.1, ev ρ p.2)) hT (by rw [List.map_map]; exact h) (by rw [List.map_map]; exact h1)
   refine ⟨v, run_v ?_, h3⟩
   have e : ((ps.toList.map fun p => (p.1, ev ρ p.2)).toArray) = ps.map fun p => (p.1, ev ρ p.2) := by apply Array.toList_inj.1; simp
   rw [e] at h2
   exact h2
  ·cases h
 ·split at h
  ·rename_i hx h1 h2 h3
   obtain ⟨v, h4, h5⟩ := evSl_ok (w := w) hT h (evO_ok hg hx) (evON_ok hg h1) (evON_ok hg h2) (evON_ok hg h3)
   exact ⟨v, run_v h4, h5⟩
  ·cases h
 ·split at h
  ·rename_i hx
   obtain ⟨v, h1, h2⟩ := evConv_ok (w := w) hT h (evO_ok hg hx)
   exact ⟨v, run_v h1, h2⟩
  ·cases h
 ·split at h
  ·rename_i hx
   obtain ⟨v, h1, h2⟩ := evIfc_ok (w := w) hT h (evO_ok hg hx)
   exact ⟨v, run_v h1, h2⟩
  ·cases h
 ·split at h
  ·rename_i f a c _ _ l m h1 h2
   cases h
   refine ⟨.func (.func f) (a.map (ev ρ)) (c.map (ev ρ)), by simp [execOp, Instr.makeFunc], _, _, ?_, evOs_ok hg h1, evOs_ok hg h2⟩
   congr 1 <;> (apply Array.toList_inj.1; simp)
  ·cases h
 ·rename_i x' X A ok
  split at h
  ·rename_i t v i hx hi
   obtain ⟨u, he, hr⟩ := evO_ok hg hx
   have hu := (hT A i hi).und
   obtain ⟨zv, hz, hzr⟩ := (hT A i hi).zeroV
   cases hd : noIf i.d with
   | false => rw [hd] at h; cases h
   | true =>
    rw [hd] at h
    simp only [cond_true] at h
    cases htA : Nat.beq t A with
    | true =>
     rw [htA] at h
     have htA := Nat.eq_of_beq_eq_true htA
     subst htA
     cases ok with
     | true =>
      cases h
      refine ⟨.tuple #[u, .bool true], ?_, [u, .bool true], Z, _, _, Z, hr, _, _, Z, Z, Z⟩
      simp only [execOp, Instr.typeAssert, Sem.run_bind, run_underlying hu, he]
      revert hd
      cases i.d <;> intro hd <;> first | (simp; done) | cases hd
     | false =>
      cases h
      refine ⟨u, ?_, hr⟩
      simp only [execOp, Instr.typeAssert, Sem.run_bind, run_underlying hu, he]
      revert hd
      cases i.d <;> intro hd <;> first | (simp; done) | cases hd
    | false =>
     rw [htA] at h
     have hne : ¬ t = A := fun e => by rw [e, show Nat.beq A A = true from Nat.beq_refl A] at htA; cases htA
     cases ok with
     | false => cases h
     | true =>
      cases h
      refine ⟨.tuple #[zv, .bool false], ?_, [zv, .bool false], Z, _, _, Z, hzr φ, _, _, Z, Z, Z⟩
      simp only [execOp, Instr.typeAssert, Sem.run_bind, run_underlying hu, he]
      revert hd
      cases i.d <;> intro hd <;> first | (simp [hne, hz]; done) | cases hd
  ·rename_i i hx hi
   have he : ev ρ x' = .nilIface := evO_ok hg hx
   have hu := (hT A i hi).und
   obtain ⟨zv, hz, hzr⟩ := (hT A i hi).zeroV
   cases hd : noIf i.d with
   | false => rw [hd] at h; cases h
   | true =>
    rw [hd] at h
    cases ok with
    | false => cases h
    | true =>
     cases h
     refine ⟨.tuple #[zv, .bool false], ?_, [zv, .bool false], Z, _, _, Z, hzr φ, _, _, Z, Z, Z⟩
     simp only [execOp, Instr.typeAssert, Sem.run_bind, run_underlying hu, he]
     revert hd
     cases i.d <;> intro hd <;> first | (simp [hz]; done) | cases hd
  ·cases h
 ·split at h
  ·rename_i ar ts _ _ x t h1 h2
   have h1 := arr1 h1
   have h2 := arr1 h2
   subst h1 h2
   split at h
   ·rename_i a hx
    obtain ⟨v, h3, h4⟩ := evLen_ok (w := w) (ty := ty) hT h (evO_ok hg hx)
    exact ⟨v, by simp [execOp, resolve, invoke, builtin, h3], h4⟩
   ·cases h
  ·cases h
 ·split at h
  ·rename_i ar ts _ _ x t h1 h2
   have h1 := arr1 h1
   have h2 := arr1 h2
   subst h1 h2
   split at h
   ·rename_i a hx
    obtain ⟨v, h3, h4⟩ := evCap_ok (w := w) (ty := ty) hT h (evO_ok hg hx)
    exact ⟨v, by simp [execOp, resolve, invoke, builtin, h3], h4⟩
   ·cases h
  ·cases h
 ·split at h
  ·rename_i ar ts _ x y h1
   have h1 := arr2 h1
   subst h1
   split at h
   ·rename_i k a k' b hx hy
    have hx : ev ρ x = .int k a := evO_ok hg hx
    have hy : ev ρ y = .int k' b := evO_ok hg hy
    split at h
    ·rename_i e
     subst e
     cases h
     refine ⟨.int k (if b < a then b else a), ?_, Z⟩
     simp [execOp, resolve, invoke, builtin, hx, hy, Builtin.min_, Builtin.min2, Result.andThen]
    ·cases h
   ·cases h
  ·cases h
 ·cases h
end
end Go.Proofs.YtoicilchhkndmaaGreatDoor
namespace Go.Proofs.YtoicilchhkndmaaGreatDoor
open Go.Proofs
def keyOk : TypeDesc → EV → Bool
 | .bool, .b _ => true
 | .int k, .i k' _ => decide (k' = k)
 | .string, .s _ => true
 | _, _ => false
def keyEq : EV → EV → Bool
 | .b a, .b b => a == b
 | .i k n, .i k' m => decide (k = k') && decide (n = m)
 | .s a, .s b => beqS a b
 | _, _ => false
def findE (k : EV) : List (EV × EV) → Nat → Option (Nat × EV)
 | [], _ => none
 | x :: l, i => bif keyEq k x.1 then some (i, x.2) else findE k l (i + 1)
theorem keyOk_rel {φ : Phi} {d : TypeDesc} {x : EV} {v : Value} (h : keyOk d x = true) (hr : RelV φ x v) : MapKept.IsKey d v := by
 cases d <;> cases x <;> simp only [keyOk] at h <;> first | (cases h; done) | skip
 ·have hr : v = .bool _ := hr
  subst hr; trivial
 ·have hr : v = .int _ _ := hr
  subst hr; have h2 := of_decide_eq_true h; exact h2
 ·have hr : v = .string _ := hr
  subst hr; trivial
theorem keyEq_rel {φ : Phi} {d : TypeDesc} {x y : EV} {v u : Value} (h : keyOk d x = true) (k : keyOk d y = true) (hr : RelV φ x v) (kr : RelV φ y u) : keyEq x y = true ↔ v = u := by
 cases d <;> cases x <;> simp only [keyOk] at h <;> first | (cases h; done) | skip
 all_goals (cases y <;> simp only [keyOk] at k <;> first | (cases k; done) | skip)
 ·have hr : v = .bool _ := hr
  have kr : u = .bool _ := kr
  subst hr kr; simp [keyEq]
 ·have hr : v = .int _ _ := hr
  have kr : u = .int _ _ := kr
  subst hr kr; simp [keyEq]
 ·have hr : v = .string _ := hr
  have kr : u = .string _ := kr
  subst hr kr; simp [keyEq, beqS_eq]
theorem findE_ok {φ : Phi} {d : TypeDesc} {k : EV} {kv : Value} (hk : keyOk d k = true) (hr : RelV φ k kv) : ∀ (es : List (EV × EV)) (ms : List MapEntry) (i : Nat), RelE2 φ es ms → es.all (fun x => keyOk d x.1) = true →
  (findE k es i = none ∧ Instr.findNow d kv ms i = some none ∧ ∀ x ∈ ms, x.key ≠ kv) ∨ ∃ j x e, findE k es i = some (i + j, x) ∧ Instr.findNow d kv ms i = some (some (i + j, e.val)) ∧ RelV φ x e.val ∧ ms[j]? = some e ∧ e.key = kv
 | [], ms, i, h, _ => by
  have h : ms = [] := h
  subst h
  exact .inl ⟨rfl, rfl, by simp⟩
 | x :: es, ms, i, h, ha => by
  obtain ⟨e, r, rfl, h1, h2, h3⟩ := h
  simp only [List.all_cons, q9] at ha
  obtain ⟨s, hs, hiff⟩ := MapKept.sameNow_of_keys (keyOk_rel hk hr) (keyOk_rel ha.1 h1)
  have hke := keyEq_rel hk ha.1 hr h1
  unfold findE
  cases s with
  | true =>
   have he := hiff.1 rfl
   have : keyEq k x.1 = true := hke.2 he
   rw [this]
   exact .inr ⟨0, x.2, e, rfl, by simp [Instr.findNow, hs], h2, rfl, he.symm⟩
  | false =>
   have hne : kv ≠ e.key := fun q => by have := hiff.2 q; cases this
   have : keyEq k x.1 = false := by cases q : keyEq k x.1 with
    | false => rfl
    | true => exact absurd (hke.1 q) hne
   rw [this]
   rcases findE_ok hk hr es r (i + 1) h3 ha.2 with ⟨g1, g2, g3⟩ | ⟨j, y, e', g1, g2, g3, g4, g5⟩
   ·refine .inl ⟨g1, by simp [Instr.findNow, hs, g2], fun z hz => ?_⟩
    rcases List.mem_cons.1 hz with rfl | hz
    ·exact fun q => hne q.symm
    ·exact g3 z hz
   ·refine .inr ⟨j + 1, y, e', ?_, ?_, g3, by simpa using g4, g5⟩
    ·show findE k es (i + 1) = _
     rw [g1]; congr 2; omega
    ·simp [Instr.findNow, hs, g2]; omega
def evLook (T : TT) (t : Nat) (es : List (EV × EV)) (k : EV) (ok : Bool) : Option EV :=
 match T t with
 | some i => match i.d with
  | .map kt et => match T kt, T et with
   | some ik, some ie => bif keyOk ik.d k && es.all (fun x => keyOk ik.d x.1) then
     match findE k es 0 with
     | some (_, v) => some (bif ok then .tu [v, .b true] else v)
     | none => some (bif ok then .tu [ie.v, .b false] else ie.v)
    else none
   | _, _ => none
  | _ => none
 | none => none
def cellsOf (H : Hp) (b off n : Nat) : Option (List EV) :=
 match (H.get b).bind VO.cs? with
 | some cs => bif Nat.ble (off + n) cs.length then some ((cs.drop off).take n) else none
 | none => none
def ascE : List EV → Option (List UInt8)
 | [] => some []
 | .i .i32 (.ofNat n) :: l => match ascE l with
  | some m => bif Nat.blt n 128 then some (n.toUInt8 :: m) else none
  | none => none
 | _ => none
def evRunes (T : TT) (H : Hp) (s d : Nat) (x : EV) : Option EV :=
 match T s, T d with
 | some is_, some id_ => match is_.d, id_.d with
  | .slice e, .string => match T e with
   | some ie => match ie.d, x with
    | .int .i32, .sl b off n k _ => bif Nat.beq k 1 then match cellsOf H b off n with
     | some l => (ascE l).map fun m => .s ⟨m.toArray⟩
     | none => none
     else none
    | _, _ => none
   | none => none
  | _, _ => none
 | _, _ => none
def evL (T : TT) (g : Nat → EV) (H : Hp) (op : Op) : Option EV :=
 match op with
 | .load t x => match evO g x with
  | some (.p b off) => evLoad T H t b off
  | _ => none
 | .lookup t x y ok => match evO g x, evO g y with
  | some (.m b), some k => match H.get b with
   | some (.mp es) => evLook T t es k ok
   | _ => none
  | some .nm, some k => evLook T t [] k ok
  | _, _ => none
 | .convert s d x => match evO g x with
  | some a => evRunes T H s d a
  | none => none
 | .call ⟨.builtin .len, ar, ts⟩ => match ar.toList, ts.toList with
  | [x], [t] => match evO g x, T t with
   | some (.m b), some i => match i.d, H.get b with
    | .map _ _, some (.mp es) => some (.i .i64 es.length)
    | _, _ => none
   | some .nm, some i => match i.d with
    | .map _ _ => some (.i .i64 0)
    | _ => none
   | _, _ => none
  | _, _ => none
 | _ => none
section
variable {P : Program} {φ : Phi} {g : Nat → EV} {ρ : Env} {w : World} {T : TT} {I : Ghost} {H : Hp} {nx : Nat} {F : List (Nat × Obj)} {E : World}
theorem cellsOf_ok (hR : Rel I φ H nx F E w) {b off n : Nat} {l : List EV} (h : cellsOf H b off n = some l) {q : PBk} (hq : φ b = some q) :
  ∃ vs, RelVs φ l vs ∧ vs.length = n ∧ (∀ u ∈ vs, u.oneCell' = true) ∧ ∀ (j : Nat) v, vs[j]? = some v → w.cell? ⟨q.r, q.sh + off + j, none⟩ = some v := by
 unfold cellsOf at h
 split at h
 ·rename_i cs hc
  obtain ⟨o, ho, hoc⟩ := Option.bind_eq_some_iff.1 hc
  obtain ⟨vs, h1, h2, h3⟩ := hR.read ho hoc hq
  cases hb : Nat.ble (off + n) cs.length with
  | false => rw [hb] at h; cases h
  | true =>
   rw [hb] at h; cases h
   have hb := Nat.le_of_ble_eq_true hb
   have hl : ((vs.drop off).take n).length = n := by rw [List.length_take, List.length_drop, h1.length]; omega
   refine ⟨(vs.drop off).take n, (h1.drop off).take n, hl, fun u hu => h2 u (List.mem_of_mem_drop (List.mem_of_mem_take hu)), fun j v hj => ?_⟩
   have hjl := (List.getElem?_eq_some_iff.1 hj).1
   rw [hl] at hjl
   rw [List.getElem?_take_of_lt hjl, List.getElem?_drop] at hj
   rw [Nat.add_assoc]; exact h3 _ _ hj
 ·cases h
theorem encode_asc {n : Nat} (h : n < 128) : Utf8.encode (n : Int) = ⟨#[n.toUInt8]⟩ :=
 (show ∀ n : Fin 128, Utf8.encode ((n : Nat) : Int) = ⟨#[(n : Nat).toUInt8]⟩ by decide +kernel) ⟨n, h⟩
theorem runes_foldl : ∀ (ns : List Nat) (r : List UInt8), (∀ n ∈ ns, n < 128) → (ns.map Int.ofNat).foldl (fun r n => r ++ Utf8.encode n) (⟨r.toArray⟩ : ByteArray) = ⟨(r ++ ns.map Nat.toUInt8).toArray⟩
 | [], r, _ => by simp
 | n :: ns, r, h => by
  rw [List.map_cons, List.foldl_cons, show Utf8.encode (Int.ofNat n) = ⟨#[n.toUInt8]⟩ from encode_asc (h n (.head _))]
  have e : (⟨r.toArray⟩ : ByteArray) ++ ⟨#[n.toUInt8]⟩ = ⟨(r ++ [n.toUInt8]).toArray⟩ := by
   apply ByteArray.ext
   simp [ByteArray.data_append]
  rw [e, runes_foldl ns _ fun m hm => h m (.tail _ hm)]
  simp
theorem ascE_ok {φ : Phi} : ∀ (l : List EV) (m : List UInt8) (vs : List Value), ascE l = some m → RelVs φ l vs → ∃ ns : List Nat, vs = (ns.map Int.ofNat).map (Value.int .i32) ∧ m = ns.map Nat.toUInt8 ∧ ∀ n ∈ ns, n < 128
 | [], m, vs, h, hr => by cases h; have hr : vs = [] := hr; subst hr; exact ⟨[], rfl, rfl, by simp⟩
 | x :: l, m, vs, h, ⟨v, us, e, h1, h2⟩ => by
  subst e
  unfold ascE at h
  split at h
  ·cases ‹_ :: _ = []›
  ·rename_i n l' e
   cases e
   split at h
   ·rename_i m' hm
    cases hb : Nat.blt n 128 with
    | false => rw [hb] at h; cases h
    | true =>
     rw [hb] at h; cases h
     have hb : n < 128 := Nat.le_of_ble_eq_true hb
     obtain ⟨ns, e1, e2, e3⟩ := ascE_ok l m' us hm h2
     have h1 : v = .int .i32 (.ofNat n) := h1
     subst h1 e1 e2
     exact ⟨n :: ns, rfl, rfl, fun k hk => (List.mem_cons.1 hk).elim (fun e => e ▸ hb) (e3 k)⟩
   ·cases h
  ·cases h
theorem evRunes_ok (hT : TTok P T) (hR : Rel I φ H nx F E w) {s d : Nat} {x y : EV} {a : Value} (h : evRunes T H s d x = some y) (hx : RelV φ x a) : ∃ v, (convert s d a).run P w = .ok v w ∧ RelV φ y v := by
 unfold evRunes at h
 split at h
 ·rename_i i1 i2 h1 h2
  split at h
  ·rename_i e e1 e2
   split at h
   ·rename_i ie h3
    split at h
    ·rename_i b off n k c e3
     have u1 := e1 ▸ (hT s i1 h1).und
     have u2 := e2 ▸ (hT d i2 h2).und
     have u3 := e3 ▸ (hT e ie h3).und
     cases hk : Nat.beq k 1 with
     | false => rw [hk] at h; cases h
     | true =>
      rw [hk] at h
      simp only [cond_true] at h
      split at h
      ·rename_i l hl
       obtain ⟨m, hm, rfl⟩ := Option.map_eq_some_iff.1 h
       obtain ⟨q, o, cap, hq, rfl, x1, x2, _⟩ := hx
       obtain ⟨vs, g1, g2, g3, g4⟩ := cellsOf_ok hR hl hq
       obtain ⟨ns, rfl, rfl, hns⟩ := ascE_ok l m vs hm g1
       have hload : (loadCells (⟨q.r, o, none⟩ : Addr) n).run P w = .ok ((ns.map Int.ofNat).map (Value.int .i32)).toArray w := by
        have := run_loadCells_list (P := P) w (⟨q.r, o, none⟩ : Addr) ((ns.map Int.ofNat).map (Value.int .i32)) (fun j v hj => by
         have hjl := (List.getElem?_eq_some_iff.1 hj).1
         rw [g2] at hjl
         rw [addr_add, x2 (by omega)]; exact g4 j v hj)
        rw [g2] at this
        exact this
       refine ⟨.string (runesBytes (ns.map Int.ofNat)), ?_, ?_⟩
       ·rw [run_convert_runes_string (P := P) w s d e _ _ _ u1 u3 u2, run_runesToString w _ n cap _ hload]
       ·show Value.string _ = Value.string _
        have := runes_foldl ns [] hns
        unfold runesBytes
        rw [show (ByteArray.empty : ByteArray) = ⟨([] : List UInt8).toArray⟩ from rfl, this]
        simp
      ·cases h
    ·cases h
   ·cases h
  ·cases h
 ·cases h
theorem look_ok (hT : TTok P T) {t : Nat} {es : List (EV × EV)} {ms : List MapEntry} {k : EV} {kv : Value} {ok : Bool} {x : EV} (h : evLook T t es k ok = some x) (hr : RelV φ k kv) (he : RelE2 φ es ms) :
  ∃ kt et v u ok', P.underlying t = some (.map kt et) ∧ RelV φ x v ∧ v = (if ok then .tuple #[u, .bool ok'] else u) ∧
   (∀ w b, (Instr.checkKey b 10000 kt kv).run P w = .ok () w) ∧ ((∃ j, ok' = true ∧ ∀ w, (Instr.findKey kt kv ms).run P w = .ok (some (j, u)) w) ∨ (ok' = false ∧ (∀ w, (Instr.findKey kt kv ms).run P w = .ok none w) ∧ ∀ w, (zeroValue et).run P w = .ok u w)) := by
 unfold evLook at h
 split at h
 ·rename_i i hi
  split at h
  ·rename_i kt et hd
   split at h
   ·rename_i ik ie hik hie
    cases hb : (keyOk ik.d k && es.all (fun x => keyOk ik.d x.1)) with
    | false => rw [hb] at h; cases h
    | true =>
     rw [hb] at h
     simp only [q9] at hb
     have hu := hd ▸ (hT t i hi).und
     have hku := (hT kt ik hik).und
     have hkk := keyOk_rel hb.1 hr
     have hc : ∀ w b, (Instr.checkKey b 10000 kt kv).run P w = .ok () w := fun w b => MapKept.run_checkKey hku hkk b 9999
     rcases findE_ok hb.1 hr es ms 0 he hb.2 with ⟨g1, g2, _⟩ | ⟨j, y, e, g1, g2, g3, _⟩
     ·rw [g1] at h
      obtain ⟨zv, hz, hzr⟩ := (hT et ie hie).zeroV
      simp only [cond_true, Option.some.injEq] at h
      refine ⟨kt, et, _, zv, false, hu, ?_, Z, hc, .inr ⟨Z, fun w => MapKept.run_findKey hku g2, hz⟩⟩
      subst h
      cases ok
      ·exact hzr φ
      ·exact ⟨[zv, .bool false], rfl, _, _, rfl, hzr φ, _, _, rfl, rfl, rfl⟩
     ·rw [g1] at h
      simp only [cond_true, Option.some.injEq] at h
      refine ⟨kt, et, _, e.val, true, hu, ?_, Z, hc, .inl ⟨_, Z, fun w => MapKept.run_findKey hku g2⟩⟩
      subst h
      cases ok
      ·exact g3
      ·exact ⟨[e.val, .bool true], rfl, _, _, rfl, g3, _, _, rfl, rfl, rfl⟩
   ·cases h
  ·cases h
 ·cases h
theorem Rel.readM (h : Rel I φ H nx F E w) {k : Nat} {es : List (EV × EV)} (hk : H.get k = some (.mp es)) {q : PBk} (hq : φ k = some q) : ∃ (ms : List MapEntry) (c : Nat), RelE2 φ es ms ∧ w.heap[q.r]? = some (.map ms.toArray c) := by
 obtain ⟨A, L, ⟨q', ms, c, h1, h2, rfl⟩, _, hS⟩ := h.pick hk
 rw [hq] at h1; cases h1
 exact ⟨ms, c, h2, hS.own _ (.head _)⟩
theorem evL_ok (hT : TTok P T) (hg : RelE φ g ρ) (hR : Rel I φ H nx F E w) {o : Oper} {x : EV} (h : evL T g H o.op = some x) : ∃ v, (execOp (ev ρ) o).run P w = .ok (.value v) w ∧ RelV φ x v := by
 obtain ⟨dst, op, ty, pos, af, gu⟩ := o
 dsimp only at h
 unfold evL at h
 split at h
 ·split at h
  ·rename_i hx
   obtain ⟨v, h1, h2⟩ := evLoad_ok hT hR h (evO_ok hg hx)
   exact ⟨v, run_v h1, h2⟩
  ·cases h
 ·rename_i t x' y ok
  split at h
  ·rename_i b k hx hy
   obtain ⟨q, hq, hxv⟩ := evO_ok hg hx
   have hyv := evO_ok hg hy
   split at h
   ·rename_i es hes
    obtain ⟨ms, c, hm, hb⟩ := hR.readM hes hq
    obtain ⟨kt, et, v, u, ok', hu, hv, he, hc, hf⟩ := look_ok hT h hyv hm
    refine ⟨v, ?_, hv⟩
    have hc := hc w ms.isEmpty
    rcases hf with ⟨j, rfl, hf⟩ | ⟨rfl, hf, hz⟩
    ·have hf := hf w
     simp [execOp, Instr.lookup, run_underlying hu, hxv, MapKept.run_getObj_map hb, hc, hf, Result.andThen, he]
    ·have hf := hf w
     simp [execOp, Instr.lookup, run_underlying hu, hxv, MapKept.run_getObj_map hb, hc, hf, hz, Result.andThen, he]
   ·cases h
  ·rename_i k hx hy
   have hxv : ev ρ x' = .map none := evO_ok hg hx
   have hyv := evO_ok hg hy
   obtain ⟨kt, et, v, u, ok', hu, hv, he, hc, hf⟩ := look_ok (ms := []) hT h hyv rfl
   refine ⟨v, ?_, hv⟩
   have hc := hc w true
   rcases hf with ⟨j, rfl, hf⟩ | ⟨rfl, hf, hz⟩
   ·have hf := hf w
    simp [execOp, Instr.lookup, run_underlying hu, hxv, hc, hf, Result.andThen, he]
   ·have hf := hf w
    simp [execOp, Instr.lookup, run_underlying hu, hxv, hc, hf, hz, Result.andThen, he]
  ·cases h
 ·split at h
  ·rename_i hx
   obtain ⟨v, h1, h2⟩ := evRunes_ok hT hR h (evO_ok hg hx)
   exact ⟨v, run_v h1, h2⟩
  ·cases h
 ·split at h
  ·rename_i ar ts _ _ x' t h1 h2
   have h1 := arr1 h1
   have h2 := arr1 h2
   subst h1 h2
   split at h
   ·rename_i b i hx hi
    obtain ⟨q, hq, hxv⟩ := evO_ok hg hx
    have hu := (hT t i hi).und
    split at h
    ·rename_i es hd hes
     rw [hd] at hu
     cases h
     obtain ⟨ms, c, hm, hb⟩ := hR.readM hes hq
     have hl : ms.length = es.length := by
      clear hb hes
      induction es generalizing ms with
      | nil => have hm : ms = [] := hm; rw [hm]; rfl
      | cons e es ih => obtain ⟨e', r, rfl, _, _, h3⟩ := hm; simp [ih r h3]
     refine ⟨.int .i64 es.length, ?_, Z⟩
     simp [execOp, resolve, hxv, invoke, builtin, Builtin.len_, run_underlying hu, goInt, MapKept.run_getObj_map hb, hl]
    ·cases h
   ·rename_i i hx hi
    have hxv : ev ρ x' = .map none := evO_ok hg hx
    have hu := (hT t i hi).und
    split at h
    ·rename_i hd
     rw [hd] at hu
     cases h
     refine ⟨.int .i64 0, ?_, Z⟩
     simp [execOp, resolve, hxv, invoke, builtin, Builtin.len_, run_underlying hu, goInt]
    ·cases h
   ·cases h
  ·cases h
 ·cases h
end
end Go.Proofs.YtoicilchhkndmaaGreatDoor
namespace Go.Proofs.YtoicilchhkndmaaGreatDoor
open Go.Proofs
def repE (n : Nat) (z : List EV) : List EV := (List.replicate n z).flatten
def evA (T : TT) (g : Nat → EV) (k : Nat) (op : Op) : Option (EV × VO) :=
 match op with
 | .alloc t => match T t with
  | some i => some (.p k 0, .cells true i.z)
  | none => none
 | .box _ x => match evO g x with
  | some a => bif a.sto && a.cs.all EV.cell then some (.p k 0, .cells true a.cs) else none
  | none => none
 | .buildSlice t n ps => match T t with
  | some i => match i.d with
   | .slice e => match T e, mpO (fun p : Nat × Operand => evO g p.2) ps.toList with
    | some ie, some vs => bif Nat.blt 0 (n * ie.size) && Nat.ble (n * ie.size) 16777216 then
      match fillE (fun j => some (j * ie.size, ie.size)) (repE n ie.z) ((ps.toList.map (·.1)).zip vs) with
      | some rs => bif rs.all EV.cell && Nat.beq rs.length (n * ie.size) then some (.sl k 0 n ie.size (.ex n), .cells true rs) else none
      | none => none
     else bif Nat.beq n 0 && ps.toList.isEmpty then some (.sl k 0 0 ie.size (.ex 0), .cells true []) else none
    | _, _ => none
   | _ => none
  | none => none
 | .makeSlice t x y => match T t, evO g x, evO g y with
  | some i, some (.i _ l), some (.i _ c) => match i.d, natOf l, natOf c with
   | .slice e, some l, some c => match T e with
    | some ie => bif Nat.blt 0 ie.size && Nat.ble l c && Nat.ble (ie.bytes * c) 281474976710656 && Nat.ble c 281474976710656 then some (.sl k 0 l ie.size (.ex c), .cells true (repE c ie.z)) else none
    | none => none
   | _, _, _ => none
  | _, _, _ => none
 | .makeMap _ none => some (.m k, .mp [])
 | .range t x => match T t, evO g x with
  | some i, some (.s s) => match i.d with
   | .string => some (.p k 0, .it s 0)
   | _ => none
  | _, _ => none
 | _ => none
section
variable {P : Program} {φ : Phi} {g : Nat → EV} {ρ : Env} {w : World} {T : TT} {I : Ghost} {H : Hp} {k nx : Nat} {F L : List (Nat × Obj)} {E : World}
theorem rep_new {r : Nat} {vs : List Value} {cs : List EV} {t : TypeId} (h : RelVs φ cs vs) (h1 : ∀ u ∈ vs, u.oneCell' = true) (hk : φ k = none) : RepB I (φ.put k ⟨r, 0, vs.length⟩) k (.cells true cs) [(r, .cells vs.toArray t (0, 0))] :=
 ⟨⟨r, 0, vs.length⟩, t, vs, [], ym _ _ _, rfl, h.mono (yz hk _), by simpa using h1, by simp, fun _ => rfl, by simp⟩
theorem RelVs.flatR {z : List EV} {vs : List Value} (h : RelVs φ z vs) : ∀ n, RelVs φ (repE n z) (List.replicate n vs).flatten
 | 0 => rfl
 | n + 1 => by
  unfold repE
  rw [List.replicate_succ, List.replicate_succ, List.flatten_cons, List.flatten_cons]
  exact h.append (RelVs.flatR h n)
theorem TIok.cell1 {t : TypeId} {i : TI} (h : TIok P t i) {zv : Value} (hz : ∀ φ, RelVs φ i.z zv.cells.toList) : ∀ u ∈ zv.cells.toList, u.oneCell' = true := EV.cells_rel (hz fun _ => none) h.z1
theorem run_build0 {t e : TypeId} {ty : TypeId} {pos : String} {af : Array Edge} {gu : Option (Nat × Bool)} {d : Option Nat} {n : Nat} (hu : P.underlying t = some (.slice e)) (hs : ∀ w, (sizeOf e).run P w = .ok n w) :
  (execOp (ev ρ) (Oper.mk d (.buildSlice t 0 #[]) ty pos af gu)).run P w = .ok (.value (.slice (some ⟨w.heap.size, 0, none⟩) 0 0)) (w.alloc (.cells #[] e)) := by
 simp [execOp, Instr.buildSlice, run_underlying hu, hs, Instr.fill, newRow]
 congr 2
 exact Array.eq_empty_of_size_eq_zero (by simp)
theorem evA_ok (hT : TTok P T) (hg : RelE φ g ρ) {o : Oper} {x : EV} {vo : VO} (h : evA T g k o.op = some (x, vo)) (hk : φ k = none) (hS : SL I L E w) :
  ∃ v w' q A, (execOp (ev ρ) o).run P w = .ok (.value v) w' ∧ RelV (φ.put k q) x v ∧ RepB I (φ.put k q) k vo A ∧ SL I (A ++ L) E w' := by
 obtain ⟨dst, op, ty, pos, af, gu⟩ := o
 dsimp only at h
 unfold evA at h
 split at h
 ·rename_i t
  split at h
  ·rename_i i hi
   simp only [Option.some.injEq, Prod.mk.injEq] at h
   obtain ⟨rfl, rfl⟩ := h
   obtain ⟨zv, hz, hzr, _⟩ := (hT t i hi).zero
   have hz1 := (hT t i hi).cell1 hzr
   refine ⟨.pointer (some ⟨w.heap.size, 0, none⟩), w.alloc (.cells zv.cells t), ⟨w.heap.size, 0, zv.cells.toList.length⟩, [(w.heap.size, .cells zv.cells.toList.toArray t (0, 0))], ?_, ⟨_, ym _ _ _, Z⟩, rep_new (hzr φ) hz1 hk, ?_⟩
   ·simp [execOp, Instr.alloc, hz, run_newVar]
   ·rw [Array.toArray_toList]; exact hS.alloc _
  ·cases h
 ·rename_i t x'
  split at h
  ·rename_i a hx
   cases hb : (a.sto && a.cs.all EV.cell) with
   | false => rw [hb] at h; cases h
   | true =>
    rw [hb] at h
    simp only [cond_true, Option.some.injEq, Prod.mk.injEq] at h
    obtain ⟨rfl, rfl⟩ := h
    simp only [q9] at hb
    have hr := EV.cs_rel (evO_ok hg hx) hb.1
    have h1 := EV.cells_rel hr hb.2
    refine ⟨.pointer (some ⟨w.heap.size, 0, none⟩), w.alloc (.cells (ev ρ x').cells t), ⟨w.heap.size, 0, (ev ρ x').cells.toList.length⟩, [(w.heap.size, .cells (ev ρ x').cells.toList.toArray t (0, 0))], ?_, ⟨_, ym _ _ _, Z⟩, rep_new hr h1 hk, ?_⟩
    ·simp [execOp, Instr.box, run_newVar]
    ·rw [Array.toArray_toList]; exact hS.alloc _
  ·cases h
 ·rename_i t n ps
  split at h
  ·rename_i i hi
   split at h
   ·rename_i e hd
    have hu := hd ▸ (hT t i hi).und
    split at h
    ·rename_i ie vs hie hvs
     have hTe := hT e ie hie
     obtain ⟨zv, hz, hzr, hzs⟩ := hTe.zero
     have hz1 := hTe.cell1 hzr
     have hpr := mpO_rel (φ := φ) (g := fun p : Nat × Operand => ev ρ p.2) (fun p a hp => evO_ok hg hp) ps.toList vs hvs
     have epar : (ps.map fun p => (p.1, ev ρ p.2)).toList = ps.toList.map fun p => (p.1, ev ρ p.2) := by simp
     cases hb : (Nat.blt 0 (n * ie.size) && Nat.ble (n * ie.size) 16777216) with
     | true =>
      rw [hb] at h
      simp only [cond_true] at h
      simp only [q9] at hb
      have b1 : 0 < n * ie.size := Nat.le_of_ble_eq_true hb.1
      have b2 := Nat.le_of_ble_eq_true hb.2
      split at h
      ·rename_i rs hrs
       cases hb3 : (rs.all EV.cell && Nat.beq rs.length (n * ie.size)) with
       | false => rw [hb3] at h; cases h
       | true =>
        rw [hb3] at h
        simp only [cond_true, Option.some.injEq, Prod.mk.injEq] at h
        obtain ⟨rfl, rfl⟩ := h
        simp only [q9] at hb3
        have b4 := Nat.eq_of_beq_eq_true hb3.2
        have hzl : zv.cells.toList.length = ie.size := by rw [Array.length_toList]; exact hzs
        have hmc : madeCells zv.cells (n * ie.size) = (List.replicate n zv.cells.toList).flatten.toArray := by
         have := madeCells_k zv.cells.toList n (by rw [hzl]; exact Nat.pos_of_ne_zero fun e => by rw [e, Nat.mul_zero] at b1; omega) hz1
         rw [hzl, Array.toArray_toList] at this
         exact this
        have hl : (ps.toList.map (·.1)).length = vs.length := by have := hpr.length; simp at this ⊢; exact this
        obtain ⟨vc, f1, f2⟩ := fillE_ok (place := fun j => some (j * ie.size, ie.size)) (ps.toList.map fun p => (p.1, ev ρ p.2)) _ (repE n ie.z) (madeCells zv.cells (n * ie.size)) rs (by rw [zip_fst _ _ hl, List.map_map]; rfl) (by rw [zip_snd _ _ hl, List.map_map]; exact hpr) (by rw [hmc]; exact (hzr φ).flatR n) hrs
        have h1 := EV.cells_rel f2 hb3.1
        have hvl : vc.toList.length = n * ie.size := by rw [f2.length, b4]
        have hrun : (Instr.buildSlice t n (ps.map fun p => (p.1, ev ρ p.2))).run P w = .ok (.slice (some ⟨w.heap.size, 0, none⟩) n n) (w.alloc (.cells vc e)) := by
         unfold Instr.buildSlice
         simp only [Sem.run_bind, Result.andThen_ok, run_underlying hu, hTe.sz]
         rw [if_neg (by omega)]
         have f1' : Instr.fill (fun i => some (i * ie.size, ie.size)) ((Array.range (n * ie.size)).map (zv.cells[· % zv.cells.size]!)) (ps.map fun p => (p.1, ev ρ p.2)).toList = some vc := by rw [epar]; exact f1
         simp only [Sem.run_pure, Result.andThen_ok, if_neg (by omega : ¬ n * ie.size = 0), Sem.run_bind, hz, f1', newRow]
         simp
        refine ⟨.slice (some ⟨w.heap.size, 0, none⟩) n n, w.alloc (.cells vc e), ⟨w.heap.size, 0, vc.toList.length⟩, [(w.heap.size, .cells vc.toList.toArray e (0, 0))], run_v hrun, ⟨_, 0, n, ym _ _ _, Z, Nat.le_refl _, fun _ => Z, Z⟩, rep_new f2 h1 hk, ?_⟩
        rw [Array.toArray_toList]; exact hS.alloc _
      ·cases h
     | false =>
      rw [hb] at h
      simp only [cond_false] at h
      cases hb3 : (Nat.beq n 0 && ps.toList.isEmpty) with
      | false => rw [hb3] at h; cases h
      | true =>
       rw [hb3] at h
       simp only [cond_true, Option.some.injEq, Prod.mk.injEq] at h
       obtain ⟨rfl, rfl⟩ := h
       simp only [q9] at hb3
       have b4 := Nat.eq_of_beq_eq_true hb3.1
       subst b4
       have hps : ps = #[] := Array.toList_inj.1 (List.isEmpty_iff.1 hb3.2)
       subst hps
       refine ⟨.slice (some ⟨w.heap.size, 0, none⟩) 0 0, w.alloc (.cells #[] e), ⟨w.heap.size, 0, 0⟩, [(w.heap.size, .cells ([] : List Value).toArray e (0, 0))], run_build0 hu hTe.sz, ⟨_, 0, 0, ym _ _ _, Z, Nat.le_refl _, fun _ => Z, Z⟩, rep_new (vs := []) Z (by simp) hk, hS.alloc _⟩
    ·cases h
   ·cases h
  ·cases h
 ·rename_i t x' y'
  split at h
  ·rename_i i k1 l k2 c hi hx hy
   have hx : ev ρ x' = .int k1 l := evO_ok hg hx
   have hy : ev ρ y' = .int k2 c := evO_ok hg hy
   split at h
   ·rename_i e l' c' hd hl hc
    have hl := natOf_ok hl
    have hc := natOf_ok hc
    subst hl hc
    have hu := hd ▸ (hT t i hi).und
    split at h
    ·rename_i ie hie
     have hTe := hT e ie hie
     cases hb : (Nat.blt 0 ie.size && Nat.ble l' c' && Nat.ble (ie.bytes * c') 281474976710656 && Nat.ble c' 281474976710656) with
     | false => rw [hb] at h; cases h
     | true =>
      rw [hb] at h
      simp only [cond_true, Option.some.injEq, Prod.mk.injEq] at h
      obtain ⟨rfl, rfl⟩ := h
      simp only [q9] at hb
      have b1 : 0 < ie.size := Nat.le_of_ble_eq_true hb.1.1.1
      have b2 := Nat.le_of_ble_eq_true hb.1.1.2
      have b3 := Nat.le_of_ble_eq_true hb.1.2
      have b4 := Nat.le_of_ble_eq_true hb.2
      obtain ⟨f, zv, f1, f2, f3, f4, f5, _⟩ := hTe.inf
      have hz1 := hTe.cell1 f5
      have hzl : zv.cells.toList.length = ie.size := by rw [(f5 φ).length, hTe.zl]
      have hrun := run_make (P := P) w t e f zv hu f1 f4 k1 k2 l' c' (by omega) (by omega) (by rw [f3, ← Int.natCast_mul]; omega) (by omega)
      have hmc : madeCells zv.cells (c' * ie.size) = (List.replicate c' zv.cells.toList).flatten.toArray := by
       have := madeCells_k zv.cells.toList c' (by omega) hz1
       rw [hzl, Array.toArray_toList] at this
       exact this
      rw [Int.toNat_natCast, Int.toNat_natCast, f2, hmc] at hrun
      have hr := (f5 φ).flatR c'
      have hlen : (List.replicate c' zv.cells.toList).flatten.length = c' * ie.size := by simp [hzl]
      refine ⟨.slice (some ⟨w.heap.size, 0, none⟩) l' c', _, ⟨w.heap.size, 0, (List.replicate c' zv.cells.toList).flatten.length⟩, [(w.heap.size, .cells (List.replicate c' zv.cells.toList).flatten.toArray e (0, 0))], ?_, ⟨_, 0, c', ym _ _ _, Z, b2, fun _ => Z, Z⟩, rep_new hr (fun u hu => ?_) hk, hS.alloc _⟩
      ·refine run_v ?_
       rw [hx, hy]; exact hrun
      ·obtain ⟨r, hr, hu⟩ := List.mem_flatten.1 hu
       rw [List.eq_of_mem_replicate hr] at hu
       exact hz1 u hu
    ·cases h
   ·cases h
  ·cases h
 ·simp only [Option.some.injEq, Prod.mk.injEq] at h
  obtain ⟨rfl, rfl⟩ := h
  refine ⟨.map (some w.heap.size), w.alloc (.map #[] 0), ⟨w.heap.size, 0, 0⟩, [(w.heap.size, .map #[] 0)], ?_, ⟨_, ym _ _ _, Z⟩, ⟨_, [], 0, ym _ _ _, Z, Z⟩, hS.alloc _⟩
  simp only [execOp, Option.map_none]
  rw [Sem.run_bind, run_makeMap_plain]; rfl
 ·rename_i t x'
  split at h
  ·rename_i i s hi hx
   have hx : ev ρ x' = .string s := evO_ok hg hx
   split at h
   ·rename_i hd
    have hu := hd ▸ (hT t i hi).und
    simp only [Option.some.injEq, Prod.mk.injEq] at h
    obtain ⟨rfl, rfl⟩ := h
    refine ⟨.pointer (some ⟨w.heap.size, 0, none⟩), w.alloc (.stringIter s 0), ⟨w.heap.size, 0, 0⟩, [(w.heap.size, .stringIter s 0)], ?_, ⟨_, ym _ _ _, Z⟩, ⟨_, ym _ _ _, Z, Z⟩, hS.alloc _⟩
    simp [execOp, Instr.range, hx, run_underlying hu]
   ·cases h
  ·cases h
 ·cases h
end
end Go.Proofs.YtoicilchhkndmaaGreatDoor
namespace Go.Proofs.YtoicilchhkndmaaGreatDoor
open Go.Proofs
def PostN (φ : Phi) (I : Ghost) (F : List (Nat × Obj)) (E : World) (k nx : Nat) (x : EV) (H : Hp) (nx' : Nat) (v : Value) (w : World) : Prop :=
 ∃ J ψ, I.le J ∧ φ.le ψ ∧ (∀ j, j < nx → j ≠ k → ψ j = φ j) ∧ nx ≤ nx' ∧ RelV ψ x v ∧ Rel J ψ H nx' F E w
section
variable {φ : Phi} {I : Ghost} {H : Hp} {k nx : Nat} {F L A : List (Nat × Obj)} {E w w' : World} {o : VO} {q : PBk}
theorem Rel.freshN (h : Rel I φ H nx F E w) (hk : φ k = none) : ∃ L, Rest I φ H k L ∧ SL I (L ++ F) E w := by
 obtain ⟨M, L, hn, hm, hr, hS⟩ := h.ex
 refine ⟨L, ⟨M, hn, fun j o' => ?_, hr⟩, hS⟩
 rw [← hm j o']
 refine ⟨fun hj => ⟨fun e=>?_, hj⟩, fun hj => hj.2⟩
 obtain ⟨q, hq⟩ := hr.phi _ hj
 subst e
 rw [hk] at hq; cases hq
theorem put_ne (φ : Phi) (q : PBk) {j : Nat} (h : j ≠ k) : φ.put k q j = φ j := if_neg h
theorem put_top (h : ∀ j, nx ≤ j → φ j = none) (hk : k < nx) (q : PBk) : ∀ j, nx ≤ j → φ.put k q j = none := fun j hj => by rw [put_ne φ q (by omega)]; exact h j hj
theorem Rel.addB (h : Rel I φ H nx F E w) (hk : φ k = none) (hx : k < nx) {x : EV} {v : Value} (hv : RelV (φ.put k q) x v) (hb : RepB I (φ.put k q) k o A) (hS : ∀ L, SL I (L ++ F) E w → SL I (A ++ (L ++ F)) E w') : PostN φ I F E k nx x (H.set k (some o)) nx v w' := by
 obtain ⟨L, hr, hS0⟩ := h.freshN hk
 exact ⟨I, φ.put k q, .refl _, yz hk q, fun j _ hj => put_ne φ q hj, Nat.le_refl _, hv, Rel.close (hr.mono (.refl _) (yz hk q)) hb (hS L hS0) (put_top h.top hx q)⟩
theorem Rel.stay (h : Rel I φ H nx F E w) {x : EV} {v : Value} (hv : RelV φ x v) : PostN φ I F E k nx x H nx v w := ⟨I, φ, .refl _, .refl _, fun _ _ _ => rfl, Nat.le_refl _, hv, h⟩
end
section
variable {φ : Phi} {I : Ghost} {H : Hp} {k b : Nat} {L : List (Nat × Obj)}
theorem Rest.moved (h : Rest I φ H b L) (hk : φ k = none) : Rest I φ (H.set b none) k L := by
 obtain ⟨M, hn, hm, hr⟩ := h
 refine ⟨M, hn, fun j o => ?_, hr⟩
 rw [hm j o, Tr.get_set]
 constructor
 ·rintro ⟨h1, h2⟩
  refine ⟨fun e=>?_, by rw [if_neg h1]; exact h2⟩
  obtain ⟨q, hq⟩ := hr.phi _ ((hm j o).2 ⟨h1, h2⟩)
  subst e
  rw [hk] at hq; cases hq
 ·rintro ⟨_, h2⟩
  by_cases e : j = b
  ·rw [if_pos e] at h2; cases h2
  ·rw [if_neg e] at h2; exact ⟨e, h2⟩
end
def capB : Nat := 140737488355328
def newsE (H : Hp) (y : EV) (size : Nat) : Option (Nat × List EV) :=
 match y with
 | .ns => some (0, [])
 | .sl b off m k _ => bif Nat.beq k size then (cellsOf H b off (m * size)).map fun l => (m, l) else none
 | _ => none
def roomC (n : Nat) : Cp → Bool
 | .ex cap => Nat.ble n cap
 | .en => true
 | .un => false
def evApp (T : TT) (H : Hp) (k t : Nat) (x y : EV) : Option (EV × Hp) :=
 match T t with
 | some i => match i.d with
  | .slice e => match T e with
   | some ie => match newsE H y ie.size with
    | some (m, news) => match x with
     | .ns => bif Nat.beq m 0 then some (.ns, H) else bif Nat.ble (m * ie.bytes) capB && Nat.ble m capB then some (.sl k 0 m ie.size .en, H.set k (some (.cells false news))) else none
     | .sl b off n k' c => bif Nat.beq m 0 then some (.sl b off n k' c, H) else
      bif Nat.beq k' ie.size && Nat.blt 0 ie.size && Nat.ble ((n + m) * ie.bytes) capB && Nat.ble (n + m) capB then
       match H.get b with
       | some (.cells ex cs) => bif roomC (n + m) c && Nat.ble (off + (n + m) * ie.size) cs.length then
         some (.sl b off (n + m) k' c, H.set b (some (.cells ex (cs.take (off + n * ie.size) ++ news ++ cs.drop (off + (n + m) * ie.size)))))
        else match c with
         | .ex cap => bif Nat.blt cap (n + m) && Nat.ble (off + n * ie.size) cs.length then some (.sl k 0 (n + m) ie.size .en, H.set k (some (.cells false ((cs.drop off).take (n * ie.size) ++ news)))) else none
         | .en => bif Nat.beq off 0 && Nat.beq (n * ie.size) cs.length then some (.sl k 0 (n + m) ie.size .en, (H.set b none).set k (some (.cells false (cs ++ news)))) else none
         | .un => none
       | some (.kn cs) => match c with
        | .ex cap => bif Nat.blt cap (n + m) && Nat.ble (off + n * ie.size) cs.length then some (.sl k 0 (n + m) ie.size .en, H.set k (some (.cells false ((cs.drop off).take (n * ie.size) ++ news)))) else none
        | _ => none
       | _ => none
      else none
     | _ => none
    | none => none
   | none => none
  | _ => none
 | none => none
section
variable {P : Program} {φ : Phi} {w : World} {T : TT} {I : Ghost} {H : Hp} {k nx : Nat} {F : List (Nat × Obj)} {E : World} {t e ty : TypeId}
theorem newsE_ok (hR : Rel I φ H nx F E w) {y : EV} {size m : Nat} {news : List EV} (h : newsE H y size = some (m, news)) {c : Value} (hy : RelV φ y c) :
  ∃ sa c2 nv, c = .slice sa m c2 ∧ RelVs φ news nv ∧ nv.length = m * size ∧ (∀ u ∈ nv, u.oneCell' = true) ∧ ((sa = none ∧ m = 0) ∨ ∃ sp, sa = some sp ∧ ∀ (j : Nat) u, nv[j]? = some u → w.cell? (sp.add j) = some u) := by
 unfold newsE at h
 split at h
 ·cases h
  exact ⟨none, 0, [], hy, rfl, by simp, by simp, .inl ⟨rfl, rfl⟩⟩
 ·rename_i b off m' k' cp
  cases hb : Nat.beq k' size with
  | false => rw [hb] at h; cases h
  | true =>
   rw [hb] at h
   obtain ⟨l, hl, he⟩ := Option.map_eq_some_iff.1 h
   cases he
   obtain ⟨q, o, cap, hq, rfl, h1, h2, _⟩ := hy
   obtain ⟨vs, g1, g2, g3, g4⟩ := cellsOf_ok hR hl hq
   refine ⟨_, cap, vs, Z, g1, g2, g3, .inr ⟨_, Z, fun j u hj => ?_⟩⟩
   have hjl := (List.getElem?_eq_some_iff.1 hj).1
   have hm0 : cap ≠ 0 := fun e => by
    have : m = 0 := by omega
    rw [g2, this, Nat.zero_mul] at hjl; omega
   rw [addr_add, h2 hm0]
   exact g4 j u hj
 ·cases h
theorem run_append_zero {i : TypeInfo} (ht : P.underlying t = some (.slice e)) (hi : P.info? e = some i) {a sa : Option Addr} {n cap c : Nat} (h : n ≤ cap) (h0 : a = none → n = 0 ∧ cap = 0) :
  (Builtin.append_ #[t, t] ty #[.slice a n cap, .slice sa 0 c]).run P w = .ok (.slice a n cap) w := by
 cases a with
 | none =>
  obtain ⟨rfl, rfl⟩ := h0 rfl
  cases sa <;> simp [Builtin.append_, run_underlying ht, sizeOf, typeInfo, hi, Builtin.lenOf, Builtin.firstCells, loadCells, loadCellsFrom, storeCells]
 | some p => cases sa <;> simp [Builtin.append_, run_underlying ht, sizeOf, typeInfo, hi, Builtin.lenOf, Builtin.firstCells, h, loadCells, loadCellsFrom, storeCells]
theorem run_append_roomT {i : TypeInfo} (ht : P.underlying t = some (.slice e)) (hi : P.info? e = some i) {g off n cap m c : Nat} {S : TypeId} {cur : Array Value} (hg : w.heap[g]? = some (.cells cur S (0, 0))) {a : Addr} {news : List Value}
  (hl : news.length = m * i.size) (hn : ∀ (j : Nat) u, news[j]? = some u → w.cell? (a.add j) = some u) (h1 : ∀ u ∈ news, u.oneCell' = true) (hroom : n + m ≤ cap) (hfit : off + n * i.size + news.length ≤ cur.size) :
  (Builtin.append_ #[t, t] ty #[.slice (some ⟨g, off, none⟩) n cap, .slice (some a) m c]).run P w = .ok (.slice (some ⟨g, off, none⟩) (n + m) cap) (w.setRow g (cur.toList.take (off + n * i.size) ++ news ++ cur.toList.drop (off + n * i.size + news.length)).toArray) := by
 have hf := run_firstCells_some (P := P) w i.size m a m c news hl hn
 have hst := run_storeCells_at P g (off + n * i.size) S news 0 cur w hg (by simpa using hfit) h1
 simp only [Nat.add_zero] at hst
 simp [Builtin.append_, run_underlying ht, sizeOf, typeInfo, hi, Builtin.lenOf, hroom, hf, addr_add, hst]
theorem zero_size {z : Array Value} {n : Nat} : (Builtin.zeroCells z n).size = n * z.size := size_zeroCells z n
theorem grown {i : TypeInfo} {zv : Value} {ie : TI} (hTe : TIok P e ie) (hi : P.info? e = some i) (hsz : i.size = ie.size) (hzr : ∀ φ, RelVs φ ie.z zv.cells.toList) (hR : Rel I φ H nx F E w) (hk : φ k = none) (hkx : k < nx) {cs : List EV} {vs : List Value} {cap m : Nat}
  (hr : RelVs φ cs vs) (h1 : ∀ u ∈ vs, u.oneCell' = true) (hl : vs.length = m * ie.size) (hc : m ≤ cap) : PostN φ I F E k nx (.sl k 0 m ie.size .en) (H.set k (some (.cells false cs))) nx (.slice (some ⟨w.heap.size, 0, none⟩) m cap) (w.drew.alloc (.cells (vs.toArray ++ Builtin.zeroCells zv.cells (cap - m)) e)) := by
 have hz1 := hTe.cell1 hzr
 have hzl : zv.cells.size = ie.size := by have := (hzr φ).length; rw [hTe.zl] at this; simpa using this
 have htot : (vs ++ (Builtin.zeroCells zv.cells (cap - m)).toList).length = cap * ie.size := by
  rw [q8, hl, Array.length_toList, zero_size, hzl, ← Nat.add_mul]; congr 1; omega
 refine hR.addB (q := ⟨w.heap.size, 0, cap * ie.size⟩) (A := [(w.heap.size, .cells (vs ++ (Builtin.zeroCells zv.cells (cap - m)).toList).toArray e (0, 0))]) hk hkx ⟨_, 0, cap, ym _ _ _, rfl, hc, fun _ => rfl, by show 0 + 0 + cap * ie.size = cap * ie.size; omega⟩
  ⟨_, e, vs, (Builtin.zeroCells zv.cells (cap - m)).toList, ym _ _ _, rfl, hr.mono (yz hk _), fun u hu => ?_, htot, (fun h => by cases h), rfl⟩ fun L hS => ?_
 ·rcases List.mem_append.1 hu with hu | hu
  ·exact h1 u hu
  ·simp only [Builtin.zeroCells] at hu
   simp at hu
   obtain ⟨a, ha, rfl⟩ := hu
   have hp : a % zv.cells.size < zv.cells.size := Nat.mod_lt _ (Nat.pos_of_ne_zero fun e => by rw [e, Nat.mul_zero] at ha; omega)
   rw [getElem!_pos zv.cells (a % zv.cells.size) hp]
   exact hz1 _ (by simp)
 ·have h2 := hS.drew.alloc (.cells (vs.toArray ++ Builtin.zeroCells zv.cells (cap - m)) e)
  have he : (vs ++ (Builtin.zeroCells zv.cells (cap - m)).toList).toArray = vs.toArray ++ Builtin.zeroCells zv.cells (cap - m) := by apply Array.toList_inj.1; simp
  rw [he]
  exact h2
theorem evApp_ok (hT : TTok P T) (hR : Rel I φ H nx F E w) (hk : φ k = none) (hkx : k < nx) {x y z : EV} {H' : Hp} (h : evApp T H k t x y = some (z, H')) {a c : Value} (hx : RelV φ x a) (hy : RelV φ y c) :
  ∃ v w', (Builtin.append_ #[t, t] ty #[a, c]).run P w = .ok v w' ∧ PostN φ I F E k nx z H' nx v w' := by
 have hB : capB = 140737488355328 := rfl
 unfold evApp at h
 split at h
 ·rename_i i hi
  split at h
  ·rename_i e hd
   have ht := hd ▸ (hT t i hi).und
   split at h
   ·rename_i ie hie
    have hTe := hT e ie hie
    obtain ⟨f, zv, f1, f2, f3, f4, f5, _⟩ := hTe.inf
    split at h
    ·rename_i m news hnews
     obtain ⟨sa, c2, nv, rfl, n1, n2, n3, n4⟩ := newsE_ok hR hnews hy
     split at h
     ·have hx : a = .slice none 0 0 := hx
      subst hx
      cases hm : Nat.beq m 0 with
      | true =>
       rw [hm] at h
       simp only [cond_true, Option.some.injEq, Prod.mk.injEq] at h
       obtain ⟨rfl, rfl⟩ := h
       have hm := Nat.eq_of_beq_eq_true hm
       subst hm
       exact ⟨_, w, run_append_zero ht f1 (Nat.le_refl _) (fun _ => ⟨rfl, rfl⟩), hR.stay rfl⟩
      | false =>
       rw [hm] at h
       simp only [cond_false] at h
       have hm0 : m ≠ 0 := fun e => by rw [e] at hm; cases hm
       cases hb : (Nat.ble (m * ie.bytes) capB && Nat.ble m capB) with
       | false => rw [hb] at h; cases h
       | true =>
        rw [hb] at h
        simp only [cond_true, Option.some.injEq, Prod.mk.injEq] at h
        obtain ⟨rfl, rfl⟩ := h
        simp only [q9] at hb
        have b1 := Nat.le_of_ble_eq_true hb.1
        have b2 := Nat.le_of_ble_eq_true hb.2
        rcases n4 with ⟨_, h0⟩ | ⟨sp, rfl, hat⟩
        ·exact absurd h0 hm0
        ·have hrun := run_append_nil (P := P) w t ty e f zv ht f1 f4 sp m c2 nv (by rw [n2, f2]) hat (by omega) (by omega) (by rw [f3]; omega)
         exact ⟨_, _, hrun, grown hTe f1 f2 f5 hR hk hkx n1 n3 n2 (grownCap_ge _ _ _ _)⟩
     ·rename_i b off n k' cp
      obtain ⟨q, o, cap, hq, rfl, x1, x2, x3⟩ := hx
      cases hm : Nat.beq m 0 with
      | true =>
       rw [hm] at h
       simp only [cond_true, Option.some.injEq, Prod.mk.injEq] at h
       obtain ⟨rfl, rfl⟩ := h
       have hm := Nat.eq_of_beq_eq_true hm
       subst hm
       exact ⟨_, w, run_append_zero ht f1 x1 (fun e => by cases e), hR.stay ⟨q, o, cap, hq, rfl, x1, x2, x3⟩⟩
      | false =>
       rw [hm] at h
       simp only [cond_false] at h
       have hm0 : m ≠ 0 := fun e => by rw [e] at hm; cases hm
       obtain ⟨sp, rfl, hat⟩ : ∃ sp, sa = some sp ∧ ∀ (j : Nat) u, nv[j]? = some u → w.cell? (sp.add j) = some u := by
        rcases n4 with ⟨_, h0⟩ | h0
        ·exact absurd h0 hm0
        ·exact h0
       cases hb : (Nat.beq k' ie.size && Nat.blt 0 ie.size && Nat.ble ((n + m) * ie.bytes) capB && Nat.ble (n + m) capB) with
       | false => rw [hb] at h; cases h
       | true =>
        rw [hb] at h
        simp only [cond_true] at h
        simp only [q9] at hb
        have b0 := Nat.eq_of_beq_eq_true hb.1.1.1
        have b1 : 0 < ie.size := Nat.le_of_ble_eq_true hb.1.1.2
        have b2 := Nat.le_of_ble_eq_true hb.1.2
        have b3 := Nat.le_of_ble_eq_true hb.2
        subst b0
        have move : ∀ {cs : List EV}, ((H.get b).bind VO.cs?) = some cs → cap < n + m → Nat.ble (off + n * ie.size) cs.length = true →
          ∃ v w', (Builtin.append_ #[t, t] ty #[.slice (some ⟨q.r, o, none⟩) n cap, .slice (some sp) m c2]).run P w = .ok v w' ∧ PostN φ I F E k nx (.sl k 0 (n + m) ie.size .en) (H.set k (some (.cells false ((cs.drop off).take (n * ie.size) ++ news)))) nx v w' := fun {cs} hcs hlt hle => by
         obtain ⟨vs, g1, g2, g3, g4⟩ := cellsOf_ok (n := n * ie.size) (off := off) (l := (cs.drop off).take (n * ie.size)) hR (by unfold cellsOf; rw [hcs]; dsimp only; rw [hle]; rfl) hq
         have hrun := run_append_grow (P := P) w t ty e f zv ht f1 f4 ⟨q.r, o, none⟩ n cap vs (by rw [g2, f2]) (fun j v hj => by
          have hjl := (List.getElem?_eq_some_iff.1 hj).1
          have hn0 : n ≠ 0 := fun e => by rw [g2, e, Nat.zero_mul] at hjl; omega
          rw [addr_add, x2 (by omega)]
          exact g4 j v hj) sp m c2 nv (by rw [n2, f2]) hat hlt (by omega) (growslice_fits hlt (by rw [f3]; omega))
         refine ⟨_, _, hrun, ?_⟩
         have he : (vs.toArray ++ nv.toArray : Array Value) = (vs ++ nv).toArray := by simp
         rw [he]
         exact grown hTe f1 f2 f5 hR hk hkx (g1.append n1) (fun u hu => (List.mem_append.1 hu).elim (g3 u) (n3 u)) (by rw [q8, g2, n2, Nat.add_mul]) (grownCap_ge _ _ _ _)
        split at h
        ·rename_i ex cs hcs
         have hcs2 : (H.get b).bind VO.cs? = some cs := by rw [hcs]; rfl
         cases hin : (roomC (n + m) cp && Nat.ble (off + (n + m) * ie.size) cs.length) with
         | true =>
          rw [hin] at h
          simp only [cond_true, Option.some.injEq, Prod.mk.injEq] at h
          obtain ⟨rfl, rfl⟩ := h
          simp only [q9] at hin
          have i2 := Nat.le_of_ble_eq_true hin.2
          obtain ⟨A, L, hBb, hr, hS⟩ := hR.pick hcs
          obtain ⟨q', S, vs, junk, y1, y2, y3, y4, y5, y6, rfl⟩ := hBb
          rw [hq] at y1; cases y1
          have hown := hS.own _ (.head _)
          simp only at hown
          have hmul : (n + m) * ie.size = n * ie.size + m * ie.size := Nat.add_mul _ _ _
          have hvl := y3.length
          have hcap : n + m ≤ cap := by
           cases cp with
           | ex c3 =>
            have x3 : cap = c3 := x3
            have := Nat.le_of_ble_eq_true hin.1
            omega
           | en =>
            have x3 : q.sh + off + cap * ie.size = q.κ := x3
            rw [q8] at y5
            have : (n + m) * ie.size ≤ cap * ie.size := by omega
            exact Nat.le_of_mul_le_mul_right this b1
           | un => cases hin.1
          have ho : o = off := by rw [x2 (by omega), y2, Nat.zero_add]
          subst ho
          have hrun := run_append_roomT (P := P) (ty := ty) ht f1 (off := o) (n := n) (cap := cap) (m := m) (c := c2) hown (by rw [n2, f2]) hat n3 hcap (by rw [f2, n2]; simp; omega)
          rw [f2, n2] at hrun
          have hcells : (vs ++ junk).toArray.toList.take (o + n * ie.size) ++ nv ++ (vs ++ junk).toArray.toList.drop (o + n * ie.size + m * ie.size) = (vs.take (o + n * ie.size) ++ nv ++ vs.drop (o + (n + m) * ie.size)) ++ junk := by
           simp only
           rw [List.take_append_of_le_length (by omega), List.drop_append_of_le_length (by omega), hmul, Nat.add_assoc]
           simp
          rw [hcells] at hrun
          refine ⟨_, _, hrun, ?_⟩
          refine ⟨I, φ, .refl _, .refl _, fun _ _ _ => Z, Nat.le_refl _, ⟨q, o, cap, hq, Z, hcap, x2, x3⟩, Rel.close hr ⟨q, S, vs.take (o + n * ie.size) ++ nv ++ vs.drop (o + (n + m) * ie.size), junk, hq, y2, ((y3.take _).append n1).append (y3.drop _), fun u hu => ?_, ?_, y6, Z⟩ hS.turn1 hR.top⟩
          ·rcases List.mem_append.1 hu with hu | hu
           ·rcases List.mem_append.1 hu with hu | hu
            ·rcases List.mem_append.1 hu with hu | hu
             ·exact y4 u (List.mem_append_left _ (List.mem_of_mem_take hu))
             ·exact n3 u hu
            ·exact y4 u (List.mem_append_left _ (List.mem_of_mem_drop hu))
           ·exact y4 u (List.mem_append_right _ hu)
          ·rw [← y5]
           simp only [q8, List.length_take, List.length_drop, n2]
           omega
         | false =>
          rw [hin] at h
          simp only [cond_false] at h
          split at h
          ·rename_i c3
           have x3 : cap = c3 := x3
           subst x3
           cases hb5 : (Nat.blt cap (n + m) && Nat.ble (off + n * ie.size) cs.length) with
           | false => rw [hb5] at h; cases h
           | true =>
            rw [hb5] at h
            simp only [cond_true, Option.some.injEq, Prod.mk.injEq] at h
            obtain ⟨rfl, rfl⟩ := h
            simp only [q9] at hb5
            exact move hcs2 (Nat.le_of_ble_eq_true hb5.1) hb5.2
          ·cases hb5 : (Nat.beq off 0 && Nat.beq (n * ie.size) cs.length) with
           | false => rw [hb5] at h; cases h
           | true =>
            rw [hb5] at h
            simp only [cond_true, Option.some.injEq, Prod.mk.injEq] at h
            obtain ⟨rfl, rfl⟩ := h
            simp only [q9] at hb5
            have c1 := Nat.eq_of_beq_eq_true hb5.1
            have c4 := Nat.eq_of_beq_eq_true hb5.2
            subst c1
            obtain ⟨A, L, hBb, hr, hS⟩ := hR.pick hcs
            obtain ⟨q', S, vs, junk, y1, y2, y3, y4, y5, y6, rfl⟩ := hBb
            rw [hq] at y1; cases y1
            have hown := hS.own _ (.head _)
            simp only at hown
            have hvl := y3.length
            have x3 : q.sh + 0 + cap * ie.size = q.κ := x3
            by_cases hcap : n + m ≤ cap
            ·have ho : o = 0 := by rw [x2 (by omega), y2]
             subst ho
             have hmul : (n + m) * ie.size = n * ie.size + m * ie.size := Nat.add_mul _ _ _
             have hle : (n + m) * ie.size ≤ cap * ie.size := Nat.mul_le_mul_right _ hcap
             have hjl : vs.length + junk.length = cap * ie.size := by rw [← q8, y5]; omega
             have hrun := run_append_roomT (P := P) (ty := ty) ht f1 (off := 0) (n := n) (cap := cap) (m := m) (c := c2) hown (by rw [n2, f2]) hat n3 hcap (by rw [f2, n2]; simp; omega)
             rw [f2, n2] at hrun
             have hcells : (vs ++ junk).toArray.toList.take (0 + n * ie.size) ++ nv ++ (vs ++ junk).toArray.toList.drop (0 + n * ie.size + m * ie.size) = (vs ++ nv) ++ junk.drop (m * ie.size) := by
              have e1 : 0 + n * ie.size = vs.length := by omega
              simp only [e1]
              rw [List.take_left, List.drop_append, List.drop_eq_nil_of_le (by omega : vs.length ≤ vs.length + m * ie.size)]
              simp
             rw [hcells] at hrun
             refine ⟨_, _, hrun, I, φ.put k ⟨q.r, 0, q.κ⟩, .refl _, yz hk _, fun j _ hj => put_ne φ _ hj, Nat.le_refl _, ⟨_, 0, cap, ym _ _ _, rfl, hcap, fun _ => rfl, by show 0 + 0 + cap * ie.size = q.κ; omega⟩,
              Rel.close ((hr.moved hk).mono (.refl _) (yz hk _)) ⟨_, S, vs ++ nv, junk.drop (m * ie.size), ym _ _ _, rfl, (y3.append n1).mono (yz hk _), fun u hu => ?_, ?_, (fun h => by cases h), rfl⟩ hS.turn1 (put_top hR.top hkx _)⟩
             ·rcases List.mem_append.1 hu with hu | hu
              ·rcases List.mem_append.1 hu with hu | hu
               ·exact y4 u (List.mem_append_left _ hu)
               ·exact n3 u hu
              ·exact y4 u (List.mem_append_right _ (List.mem_of_mem_drop hu))
             ·show _ = q.κ
              rw [← y5]
              simp only [q8, List.length_drop, n2]
              omega
            ·have hlt : cap < n + m := by omega
             obtain ⟨us, g1, g2, g3, g4⟩ := cellsOf_ok (n := n * ie.size) (off := 0) (l := (cs.drop 0).take (n * ie.size)) hR (by unfold cellsOf; rw [hcs2]; dsimp only; rw [show Nat.ble (0 + n * ie.size) cs.length = true from Nat.ble_eq_true_of_le (by omega)]; rfl) hq
             have e0 : (cs.drop 0).take (n * ie.size) = cs := by rw [List.drop_zero, List.take_of_length_le (by omega)]
             rw [e0] at g1
             have hrun := run_append_grow (P := P) w t ty e f zv ht f1 f4 ⟨q.r, o, none⟩ n cap us (by rw [g2, f2]) (fun j v hj => by
              have hjl := (List.getElem?_eq_some_iff.1 hj).1
              have hn0 : n ≠ 0 := fun e => by rw [g2, e, Nat.zero_mul] at hjl; omega
              rw [addr_add, x2 (by omega)]
              exact g4 j v hj) sp m c2 nv (by rw [n2, f2]) hat hlt (by omega) (growslice_fits hlt (by rw [f3]; omega))
             refine ⟨_, _, hrun, ?_⟩
             have he : (us.toArray ++ nv.toArray : Array Value) = (us ++ nv).toArray := by simp
             rw [he]
             have hR2 : Rel I φ (H.set b none) nx F E w := Rel.gone hr hS.dropAll hR.top
             exact grown hTe f1 f2 f5 hR2 hk hkx (g1.append n1) (fun u hu => (List.mem_append.1 hu).elim (g3 u) (n3 u)) (by rw [q8, g2, n2, Nat.add_mul]) (grownCap_ge _ _ _ _)
          ·cases h
        ·rename_i cs hcs
         have hcs2 : (H.get b).bind VO.cs? = some cs := by rw [hcs]; rfl
         split at h
         ·rename_i c3
          have x3 : cap = c3 := x3
          subst x3
          cases hb5 : (Nat.blt cap (n + m) && Nat.ble (off + n * ie.size) cs.length) with
          | false => rw [hb5] at h; cases h
          | true =>
           rw [hb5] at h
           simp only [cond_true, Option.some.injEq, Prod.mk.injEq] at h
           obtain ⟨rfl, rfl⟩ := h
           simp only [q9] at hb5
           exact move hcs2 (Nat.le_of_ble_eq_true hb5.1) hb5.2
         ·cases h
        ·cases h
     ·cases h
    ·cases h
   ·cases h
  ·cases h
 ·cases h
end
end Go.Proofs.YtoicilchhkndmaaGreatDoor
