/- The example of RunMore, played. No conditions but the tables. -/
import Derived.Test.YtoicilchhkndmaaGreatDoorJl
import Derived.Test.YtoicilchhkndmaaGreatDoorJd
import Derived.Lib.SplitLaws
set_option linter.unusedVariables false
set_option linter.unusedSimpArgs false
set_option linter.unusedSectionVars false
namespace Go.Proofs.YtoicilchhkndmaaGreatDoor
open Go.Proofs.Tryz
open Go.Proofs
section
variable {φ : Phi}
theorem RelE2.push : ∀ {es : List (EV × EV)} {ms : List MapEntry}, RelE2 φ es ms → ∀ {k v : EV} {e : MapEntry}, RelV φ k e.key → RelV φ v e.val → RelE2 φ (es ++ [(k, v)]) (ms ++ [e])
 | [], _, h, k, v, e, h1, h2 => by have h : _ = [] := h; subst h; exact ⟨e, [], rfl, h1, h2, rfl⟩
 | _ :: _, _, ⟨e', r, a, b, c, d⟩, k, v, e, h1, h2 => by subst a; exact ⟨e', _, rfl, b, c, RelE2.push d h1 h2⟩
theorem RelE2.set : ∀ {es : List (EV × EV)} {ms : List MapEntry} (j : Nat), RelE2 φ es ms → ∀ {k v : EV} {e : MapEntry}, RelV φ k e.key → RelV φ v e.val → RelE2 φ (es.set j (k, v)) (ms.set j e)
 | [], _, _, h, k, v, e, h1, h2 => by have h : _ = [] := h; subst h; exact rfl
 | _ :: _, _, 0, ⟨e', r, a, b, c, d⟩, k, v, e, h1, h2 => by subst a; exact ⟨e, _, rfl, h1, h2, d⟩
 | _ :: _, _, j + 1, ⟨e', r, a, b, c, d⟩, k, v, e, h1, h2 => by subst a; exact ⟨e', _, rfl, b, c, RelE2.set j d h1 h2⟩
end
def evApZ (T : TT) (H : Hp) (k t u : Nat) (x y : EV) : Option (EV × Hp) :=
 match T t, T u with
 | some i, some iu => match i.d, iu.d, x, y with
  | .slice e, .int _, .ns, .i _ n => match T e, natOf n with
   | some ie, some m => bif Nat.blt 0 m && Nat.blt 0 ie.size && Nat.ble (m * ie.bytes) capB && Nat.ble m capB then some (.sl k 0 m ie.size .en, H.set k (some (.cells false (repE m ie.z)))) else none
   | _, _ => none
  | _, _, _, _ => none
 | _, _ => none
def evCopy (T : TT) (H : Hp) (t : Nat) (x y : EV) : Option (EV × Hp) :=
 match T t with
 | some i => match i.d, x with
  | .slice e, .sl b off n k' _ => match T e with
   | some ie => match newsE H y ie.size, H.get b with
    | some (m, news), some (.cells ex cs) => bif Nat.beq (Nat.min m n) 0 then some (.i .i64 0, H) else bif Nat.beq k' ie.size && Nat.blt 0 ie.size && Nat.blt 0 (Nat.min m n) && Nat.ble (off + Nat.min m n * ie.size) cs.length then
      some (.i .i64 (Nat.min m n), H.set b (some (.cells ex (cs.take off ++ news.take (Nat.min m n * ie.size) ++ cs.drop (off + Nat.min m n * ie.size))))) else none
    | _, _ => none
   | none => none
  | _, _ => none
 | none => none
def evC (T : TT) (g : Nat → EV) (H : Hp) (k : Nat) (op : Op) : Option (EV × Hp) :=
 match op with
 | .store t x y => match T t, evO g x, evO g y with
  | some i, some (.p b off), some a => match H.get b with
   | some (.cells ex cs) => bif a.sto && a.cs.all EV.cell && Nat.beq a.cs.length i.size && Nat.ble (off + i.size) cs.length then some (.u, H.set b (some (.cells ex (cs.take off ++ a.cs ++ cs.drop (off + i.size))))) else none
   | _ => none
  | _, _, _ => none
 | .next x true => match evO g x with
  | some (.p b off) => match H.get b with
   | some (.it s p) => bif Nat.beq off 0 then
     match s.data.toList[p]? with
     | some c => bif Nat.blt c.toNat 128 then some (.tu [.b true, .i .i64 p, .i .i32 c.toNat], H.set b (some (.it s (p + 1)))) else none
     | none => some (.tu [.b false], H)
    else none
   | _ => none
  | _ => none
 | .mapUpdate t m y z => match T t, evO g m, evO g y, evO g z with
  | some i, some (.m b), some key, some v => match i.d, H.get b with
   | .map kt _, some (.mp es) => match T kt with
    | some ik => bif keyOk ik.d key && es.all (fun x => keyOk ik.d x.1) then
      match findE key es 0 with
      | some (j, _) => some (.u, H.set b (some (.mp (es.set j (key, v)))))
      | none => some (.u, H.set b (some (.mp (es ++ [(key, v)]))))
     else none
    | none => none
   | _, _ => none
  | _, _, _, _ => none
 | .call ⟨.builtin .append, ar, ts⟩ => match ar.toList, ts.toList with
  | [x, y], [t, u] => match evO g x, evO g y with
   | some a, some c => bif Nat.beq t u then evApp T H k t a c else evApZ T H k t u a c
   | _, _ => none
  | _, _ => none
 | .call ⟨.builtin .copy, ar, ts⟩ => match ar.toList, ts.toList with
  | [x, y], [t, _] => match evO g x, evO g y with
   | some a, some c => evCopy T H t a c
   | _, _ => none
  | _, _ => none
 | _ => none
section
variable {P : Program} {φ : Phi} {g : Nat → EV} {ρ : Env} {w : World} {T : TT} {I : Ghost} {H : Hp} {k nx : Nat} {F : List (Nat × Obj)} {E : World}
theorem evApZ_ok {t u : Nat} {ty : TypeId} (hT : TTok P T) (hR : Rel I φ H nx F E w) (hk : φ k = none) (hkx : k < nx) {x y z : EV} {H' : Hp} (h : evApZ T H k t u x y = some (z, H')) {a c : Value} (hx : RelV φ x a) (hy : RelV φ y c) :
  ∃ v w', (Builtin.append_ #[t, u] ty #[a, c]).run P w = .ok v w' ∧ PostN φ I F E k nx z H' nx v w' := by
 have hB : capB = 140737488355328 := rfl
 unfold evApZ at h
 split at h
 ·rename_i i iu hi hiu
  split at h
  ·rename_i e ku k2 n hd hdu
   have ht := hd ▸ (hT t i hi).und
   have hu := hdu ▸ (hT u iu hiu).und
   have hx : a = .slice none 0 0 := hx
   have hy : c = .int k2 n := hy
   subst hx hy
   split at h
   ·rename_i ie m hie hm
    have hm := natOf_ok hm
    subst hm
    have hTe := hT e ie hie
    obtain ⟨f, zv, f1, f2, f3, f4, f5, _⟩ := hTe.inf
    cases hb : (Nat.blt 0 m && Nat.blt 0 ie.size && Nat.ble (m * ie.bytes) capB && Nat.ble m capB) with
    | false => rw [hb] at h; cases h
    | true =>
     rw [hb] at h
     simp only [cond_true, Option.some.injEq, Prod.mk.injEq] at h
     obtain ⟨rfl, rfl⟩ := h
     simp only [q9] at hb
     have b0 : 0 < m := Nat.le_of_ble_eq_true hb.1.1.1
     have b1 : 0 < ie.size := Nat.le_of_ble_eq_true hb.1.1.2
     have b2 := Nat.le_of_ble_eq_true hb.1.2
     have b3 := Nat.le_of_ble_eq_true hb.2
     have hz1 := hTe.cell1 f5
     have hzl : zv.cells.toList.length = ie.size := by rw [(f5 φ).length, hTe.zl]
     have hrun := Go.Lib.run_append_nil_zeros (P := P) w t u ty e f zv k2 ku ht hu f1 f4 m b0 (by rw [f2]; exact b1) (by omega) (by rw [f3]; omega)
     have hzc : Builtin.zeroCells zv.cells m = (List.replicate m zv.cells.toList).flatten.toArray := by
      have := madeCells_k zv.cells.toList m (by omega) hz1
      rw [Array.toArray_toList] at this
      rw [← this, Array.length_toList]; rfl
     rw [hzc] at hrun
     exact ⟨_, _, hrun, grown hTe f1 f2 f5 hR hk hkx ((f5 φ).flatR m) (fun u hu => by
      obtain ⟨r, hr, hu⟩ := List.mem_flatten.1 hu
      rw [List.eq_of_mem_replicate hr] at hu
      exact hz1 u hu) (by simp [hzl]) (grownCap_ge _ _ _ _)⟩
   ·cases h
  ·cases h
 ·cases h
theorem evCopy_ok {t u : Nat} {ty : TypeId} (hT : TTok P T) (hR : Rel I φ H nx F E w) {x y z : EV} {H' : Hp} (h : evCopy T H t x y = some (z, H')) {a c : Value} (hx : RelV φ x a) (hy : RelV φ y c) :
  ∃ v w', (Builtin.copy_ #[t, u] ty #[a, c]).run P w = .ok v w' ∧ PostN φ I F E k nx z H' nx v w' := by
 unfold evCopy at h
 split at h
 ·rename_i i hi
  split at h
  ·rename_i e b off n k' cp hd
   have ht := hd ▸ (hT t i hi).und
   split at h
   ·rename_i ie hie
    have hTe := hT e ie hie
    split at h
    ·rename_i m news ex cs hnews hcs
     obtain ⟨q, hqe⟩ : ∃ q, Nat.min m n = q := ⟨_, rfl⟩
     rw [hqe] at h
     have hq1 : q ≤ m := hqe ▸ Nat.min_le_left m n
     have hq2 : q ≤ n := hqe ▸ Nat.min_le_right m n
     cases hq0 : Nat.beq q 0 with
     | true =>
      rw [hq0] at h
      simp only [cond_true, Option.some.injEq, Prod.mk.injEq] at h
      obtain ⟨rfl, rfl⟩ := h
      have hq0 := Nat.eq_of_beq_eq_true hq0
      subst hq0
      obtain ⟨pb, o, cap, hq, rfl, x1, x2, x3⟩ := hx
      obtain ⟨sa, c2, nv, rfl, n1, n2, n3, n4⟩ := newsE_ok hR hnews hy
      refine ⟨.int .i64 0, w, ?_, hR.stay Z⟩
      cases sa <;> simp [Builtin.copy_, run_underlying ht, hTe.sz, Builtin.lenOf, hqe, Builtin.firstCells, loadCells, loadCellsFrom, storeCells, goInt, Result.andThen]
     | false =>
     rw [hq0] at h
     simp only [cond_false] at h
     cases hb : (Nat.beq k' ie.size && Nat.blt 0 ie.size && Nat.blt 0 q && Nat.ble (off + q * ie.size) cs.length) with
     | false => rw [hb] at h; cases h
     | true =>
      rw [hb] at h
      simp only [cond_true, Option.some.injEq, Prod.mk.injEq] at h
      obtain ⟨rfl, rfl⟩ := h
      simp only [q9] at hb
      have b0 := Nat.eq_of_beq_eq_true hb.1.1.1
      have b1 : 0 < ie.size := Nat.le_of_ble_eq_true hb.1.1.2
      have b2 : 0 < q := Nat.le_of_ble_eq_true hb.1.2
      have b3 := Nat.le_of_ble_eq_true hb.2
      subst b0
      obtain ⟨pb, o, cap, hq, rfl, x1, x2, _⟩ := hx
      obtain ⟨sa, c2, nv, rfl, n1, n2, n3, n4⟩ := newsE_ok hR hnews hy
      obtain ⟨sp, rfl, hat⟩ : ∃ sp, sa = some sp ∧ ∀ (j : Nat) u, nv[j]? = some u → w.cell? (sp.add j) = some u := by
       rcases n4 with ⟨_, h0⟩ | h0
       ·omega
       ·exact h0
      have hmul : q * ie.size ≤ m * ie.size := Nat.mul_le_mul_right _ hq1
      have hnl : (nv.take (q * ie.size)).length = q * ie.size := by rw [List.length_take, n2]; omega
      have hf := run_firstCells_some (P := P) w ie.size q sp m c2 (nv.take (q * ie.size)) hnl (fun j v hj => hat j v (by
       have := (List.getElem?_eq_some_iff.1 hj).1
       rw [hnl] at this
       rwa [List.getElem?_take_of_lt this] at hj))
      obtain ⟨A, L, hBb, hr, hS⟩ := hR.pick hcs
      obtain ⟨q', S, vs, junk, y1, y2, y3, y4, y5, y6, rfl⟩ := hBb
      rw [hq] at y1; cases y1
      have hvl := y3.length
      have ho : o = off := by rw [x2 (by omega), y2, Nat.zero_add]
      subst ho
      have hst := run_storeRow (P := P) (w := w) (b := pb.r) (off := o) (n := q * ie.size) (T := S) (old := vs ++ junk) (vs := nv.take (q * ie.size)) hnl (fun u hu => n3 u (List.mem_of_mem_take hu)) (by rw [q8]; omega) (hS.own _ (.head _))
      have hcells : (vs ++ junk).take o ++ nv.take (q * ie.size) ++ (vs ++ junk).drop (o + q * ie.size) = (vs.take o ++ nv.take (q * ie.size) ++ vs.drop (o + q * ie.size)) ++ junk := by
       rw [List.take_append_of_le_length (by omega), List.drop_append_of_le_length (by omega)]
       simp
      rw [hcells] at hst
      refine ⟨.int .i64 q, _, ?_, I, φ, .refl _, .refl _, fun _ _ _ => Z, Nat.le_refl _, Z, Rel.close hr ⟨pb, S, vs.take o ++ nv.take (q * ie.size) ++ vs.drop (o + q * ie.size), junk, hq, y2, ((y3.take _).append (n1.take _)).append (y3.drop _), fun u hu => ?_, ?_, y6, Z⟩ hS.turn1 hR.top⟩
      ·simp [Builtin.copy_, run_underlying ht, hTe.sz, Builtin.lenOf, hqe, hf, hst, goInt, Result.andThen]
      ·rcases List.mem_append.1 hu with hu | hu
       ·rcases List.mem_append.1 hu with hu | hu
        ·rcases List.mem_append.1 hu with hu | hu
         ·exact y4 u (List.mem_append_left _ (List.mem_of_mem_take hu))
         ·exact n3 u (List.mem_of_mem_take hu)
        ·exact y4 u (List.mem_append_left _ (List.mem_of_mem_drop hu))
       ·exact y4 u (List.mem_append_right _ hu)
      ·rw [← y5]
       simp only [q8, List.length_drop, hnl, List.length_take, n2] at *
       omega
    ·cases h
   ·cases h
  ·cases h
 ·cases h
theorem OpW.val {o : Oper} {K : Value → World → Prop} {v : Value} {w' : World} (h : (execOp (ev ρ) o).run P w = .ok (.value v) w') (hk : K v w') : OpW P o ρ w K := by
 unfold OpW; rw [h]; exact hk
theorem OpW.skp {o : Oper} {K : Value → World → Prop} {w' : World} (h : (execOp (ev ρ) o).run P w = .ok .skip w') (hk : K undef w') : OpW P o ρ w K := by
 unfold OpW; rw [h]; exact hk
theorem evC_ok (hT : TTok P T) (hg : RelE φ g ρ) (hR : Rel I φ H nx F E w) (hk : φ k = none) (hkx : k < nx) {o : Oper} {x : EV} {H' : Hp} (h : evC T g H k o.op = some (x, H')) : OpW P o ρ w (PostN φ I F E k nx x H' nx) := by
 obtain ⟨dst, op, ty, pos, af, gu⟩ := o
 dsimp only at h
 unfold evC at h
 split at h
 ·rename_i t x' y'
  split at h
  ·rename_i i b off a hi hx hy
   have hTi := hT t i hi
   obtain ⟨q, hq, hxv⟩ := evO_ok hg hx
   have hyv := evO_ok hg hy
   split at h
   ·rename_i ex cs hcs
    cases hb : (a.sto && a.cs.all EV.cell && Nat.beq a.cs.length i.size && Nat.ble (off + i.size) cs.length) with
    | false => rw [hb] at h; cases h
    | true =>
     rw [hb] at h
     simp only [cond_true, Option.some.injEq, Prod.mk.injEq] at h
     obtain ⟨rfl, rfl⟩ := h
     simp only [q9] at hb
     have b1 := hb.1.1.1
     have b2 := hb.1.1.2
     have b3 := Nat.eq_of_beq_eq_true hb.1.2
     have b4 := Nat.le_of_ble_eq_true hb.2
     have hr := EV.cs_rel hyv b1
     have h1 := EV.cells_rel hr b2
     obtain ⟨A, L, hBb, hrest, hS⟩ := hR.pick hcs
     obtain ⟨q', S, vs, junk, y1, y2, y3, y4, y5, y6, rfl⟩ := hBb
     rw [hq] at y1; cases y1
     have hvl := y3.length
     have hrun := run_storeAt (P := P) (t := t) (b := q.r) (off := off) (v := ev ρ y') (vs := (ev ρ y').cells.toList) (old := vs ++ junk) (w := w) hTi.sz (by simp) (by rw [hr.length, b3]) h1 (by rw [q8]; omega) (hS.own _ (.head _))
     have hcells : (vs ++ junk).take off ++ (ev ρ y').cells.toList ++ (vs ++ junk).drop (off + i.size) = (vs.take off ++ (ev ρ y').cells.toList ++ vs.drop (off + i.size)) ++ junk := by
      rw [List.take_append_of_le_length (by omega), List.drop_append_of_le_length (by omega)]
      simp
     rw [hcells] at hrun
     refine OpW.skp (w' := w.setRow q.r ((vs.take off ++ (ev ρ y').cells.toList ++ vs.drop (off + i.size)) ++ junk).toArray) ?_ ⟨I, φ, .refl _, .refl _, fun _ _ _ => Z, Nat.le_refl _, trivial, Rel.close hrest ⟨q, S, _, junk, hq, y2, ((y3.take off).append hr).append (y3.drop _), fun u hu => ?_, ?_, y6, Z⟩ hS.turn1 hR.top⟩
     ·simp only [execOp, hxv]
      rw [y2, Nat.zero_add, Sem.run_bind, hrun]; rfl
     ·rcases List.mem_append.1 hu with hu | hu
      ·rcases List.mem_append.1 hu with hu | hu
       ·rcases List.mem_append.1 hu with hu | hu
        ·exact y4 u (List.mem_append_left _ (List.mem_of_mem_take hu))
        ·exact h1 u hu
       ·exact y4 u (List.mem_append_left _ (List.mem_of_mem_drop hu))
      ·exact y4 u (List.mem_append_right _ hu)
     ·have hl2 := hr.length
      rw [← y5]
      simp only [q8, List.length_take, List.length_drop, hl2]
      omega
   ·cases h
  ·cases h
 ·rename_i x'
  split at h
  ·rename_i b off hx
   obtain ⟨q, hq, hxv⟩ := evO_ok hg hx
   split at h
   ·rename_i s p hsp
    obtain ⟨A, L, hBb, hrest, hS⟩ := hR.pick hsp
    obtain ⟨q', y1, y2, rfl⟩ := hBb
    rw [hq] at y1; cases y1
    have hb := hS.own _ (.head _)
    simp only at hb
    cases ho : Nat.beq off 0 with
    | false => rw [ho] at h; cases h
    | true =>
     rw [ho] at h
     have ho := Nat.eq_of_beq_eq_true ho
     subst ho
     have hxv : ev ρ x' = .pointer (some ⟨q.r, 0, none⟩) := by rw [hxv, y2]
     simp only [cond_true] at h
     have hsz : s.size = s.data.toList.length := by rw [Array.length_toList]; rfl
     split at h
     ·rename_i c hc
      cases hc2 : Nat.blt c.toNat 128 with
      | false => rw [hc2] at h; cases h
      | true =>
       rw [hc2] at h
       simp only [cond_true, Option.some.injEq, Prod.mk.injEq] at h
       obtain ⟨rfl, rfl⟩ := h
       have hc2 : c.toNat < 128 := Nat.le_of_ble_eq_true hc2
       have hd := decode_ascii (s := s) (p := p) (b := c) (by rw [← Array.getElem?_toList]; exact hc) hc2
       have hp : p < s.size := by rw [hsz]; exact (List.getElem?_eq_some_iff.1 hc).1
       refine OpW.val (v := .tuple #[.bool true, .int .i64 p, .int .i32 c.toNat]) (w' := { w with heap := w.heap.setIfInBounds q.r (.stringIter s (p + 1)) }) ?_ ⟨I, φ, .refl _, .refl _, fun _ _ _ => Z, Nat.le_refl _, ⟨[_, _, _], Z, _, _, Z, Z, _, _, Z, Z, _, _, Z, Z, Z⟩, Rel.close hrest ⟨q, hq, y2, Z⟩ (hS.turn Z Z Z ?_ ?_) hR.top⟩
       ·simp [execOp, Instr.next, hxv, run_getObj_str hb, run_setObj_str hb, Result.andThen, hp, goInt, hd]
       ·simp [lt_of_some hb]
       ·intro j hj; simp [Array.getElem?_setIfInBounds, Ne.symm hj]
     ·rename_i hc
      simp only [Option.some.injEq, Prod.mk.injEq] at h
      obtain ⟨rfl, rfl⟩ := h
      have hp : ¬ p < s.size := by rw [hsz]; exact fun hlt => by rw [q3 hlt] at hc; cases hc
      refine OpW.val (v := .tuple #[.bool false]) (w' := w) ?_ (hR.stay ⟨[_], Z, _, _, Z, Z, Z⟩)
      simp [execOp, Instr.next, hxv, run_getObj_str hb, Result.andThen, hp]
   ·cases h
  ·cases h
 ·rename_i t m' y' z'
  split at h
  ·rename_i i b key v hi hx hy hz
   obtain ⟨q, hq, hxv⟩ := evO_ok hg hx
   have hyv := evO_ok hg hy
   have hzv := evO_ok hg hz
   split at h
   ·rename_i kt et es hd hes
    have hu := hd ▸ (hT t i hi).und
    split at h
    ·rename_i ik hik
     have hku := (hT kt ik hik).und
     cases hb : (keyOk ik.d key && es.all (fun x => keyOk ik.d x.1)) with
     | false => rw [hb] at h; cases h
     | true =>
      rw [hb] at h
      simp only [cond_true] at h
      simp only [q9] at hb
      obtain ⟨A, L, hBb, hrest, hS⟩ := hR.pick hes
      obtain ⟨q', ms, clock, y1, y2, rfl⟩ := hBb
      rw [hq] at y1; cases y1
      have hb2 := hS.own _ (.head _)
      simp only at hb2
      have hkk := keyOk_rel hb.1 hyv
      have hc : (Instr.checkKey false 10000 kt (ev ρ y')).run P w = .ok () w := MapKept.run_checkKey hku hkk false 9999
      have fin : ∀ (es' : List (EV × EV)) (ms' : List MapEntry) (clock' : Nat), RelE2 φ es' ms' → (execOp (ev ρ) (Oper.mk dst (.mapUpdate t m' y' z') ty pos af gu)).run P w = .ok .skip { w with heap := w.heap.setIfInBounds q.r (.map ms'.toArray clock') } → OpW P (Oper.mk dst (.mapUpdate t m' y' z') ty pos af gu) ρ w (PostN φ I F E k nx .u (H.set b (some (.mp es'))) nx) := fun es' ms' clock' hr hrun => by
       have hh := MapKept.heap_set (o' := .map ms'.toArray clock') hb2
       exact OpW.skp hrun ⟨I, φ, .refl _, .refl _, fun _ _ _ => rfl, Nat.le_refl _, trivial, Rel.close hrest ⟨q, ms', clock', hq, hr, rfl⟩ (hS.turn rfl rfl rfl hh.1 hh.2) hR.top⟩
      rcases findE_ok hb.1 hyv es ms 0 y2 hb.2 with ⟨g1, g2, _⟩ | ⟨j, y, e, g1, g2, g3, g4, g5⟩
      ·rw [g1] at h
       simp only [Option.some.injEq, Prod.mk.injEq] at h
       obtain ⟨rfl, rfl⟩ := h
       have hf := MapKept.run_findKey (P := P) (w := w) hku g2
       refine fin _ (ms ++ [{ key := ev ρ y', val := ev ρ z', born := clock }]) (clock + 1) (y2.push hyv hzv) ?_
       simp [execOp, hxv, Instr.mapUpdate, run_underlying hu, MapKept.run_getObj_map hb2, hc, hf, MapKept.run_setObj_map _ hb2, Result.andThen]
      ·rw [g1] at h
       simp only [Nat.zero_add, Option.some.injEq, Prod.mk.injEq] at h
       obtain ⟨rfl, rfl⟩ := h
       rw [Nat.zero_add] at g2
       have hf := MapKept.run_findKey (P := P) (w := w) hku g2
       have hkeep := MapKept.run_keyThatStays (P := P) (w := w) hkk
       refine fin _ (ms.set j { e with key := ev ρ y', val := ev ρ z' }) clock (y2.set j hyv hzv) ?_
       have hjl := (List.getElem?_eq_some_iff.1 g4).1
       have hset : (ms.toArray.modify j fun e => { e with key := ev ρ y', val := ev ρ z' }) = (ms.set j { e with key := ev ρ y', val := ev ρ z' }).toArray := by
        apply Array.ext_getElem?
        intro p
        rw [Array.getElem?_modify, List.getElem?_toArray, List.getElem?_toArray]
        by_cases hp : j = p
        ·subst hp
         rw [if_pos rfl, g4, List.getElem?_set_self hjl]; rfl
        ·rw [if_neg hp, List.getElem?_set_ne hp]
       rw [← hset]
       simp [execOp, hxv, Instr.mapUpdate, run_underlying hu, MapKept.run_getObj_map hb2, hc, hf, MapKept.run_setObj_map _ hb2, Result.andThen, g4, g5, hkeep]
    ·cases h
   ·cases h
  ·cases h
 ·split at h
  ·rename_i ar ts _ _ x' y' t u h1 h2
   have h1 := arr2 h1
   have h2 := arr2 h2
   subst h1 h2
   split at h
   ·rename_i a c hx hy
    cases htu : Nat.beq t u with
    | false =>
     rw [htu] at h
     obtain ⟨v, w', h3, h4⟩ := evApZ_ok (ty := ty) hT hR hk hkx h (evO_ok hg hx) (evO_ok hg hy)
     exact OpW.val (by simp [execOp, resolve, invoke, builtin, h3]) h4
    | true =>
     rw [htu] at h
     have htu := Nat.eq_of_beq_eq_true htu
     subst htu
     obtain ⟨v, w', h3, h4⟩ := evApp_ok (ty := ty) hT hR hk hkx h (evO_ok hg hx) (evO_ok hg hy)
     exact OpW.val (by simp [execOp, resolve, invoke, builtin, h3]) h4
   ·cases h
  ·cases h
 ·split at h
  ·rename_i ar ts _ _ x' y' t u h1 h2
   have h1 := arr2 h1
   have h2 := arr2 h2
   subst h1 h2
   split at h
   ·rename_i a c hx hy
    obtain ⟨v, w', h3, h4⟩ := evCopy_ok (k := k) (u := u) (ty := ty) hT hR h (evO_ok hg hx) (evO_ok hg hy)
    exact OpW.val (by simp [execOp, resolve, invoke, builtin, h3]) h4
   ·cases h
  ·cases h
 ·cases h
end
end Go.Proofs.YtoicilchhkndmaaGreatDoor
namespace Go.Proofs.YtoicilchhkndmaaGreatDoor
open Go.Proofs.Tryz
open Go.Proofs
def gt (G : Tr EV) (t : Nat) : EV := (G.get t).getD .u
def setO (G : Tr EV) (d : Option Nat) (x : EV) : Tr EV :=
 match d with
 | some d => G.set d (some x)
 | none => G
abbrev CallE := Nat → List EV → Hp → Nat → Option (EV × Hp × Nat)
def CallOk (P : Program) (E : World) (call : CallE) : Prop :=
 ∀ f ar H nx x H' nx', call f ar H nx = some (x, H', nx') → ∀ φ I F w vs, Rel I φ H nx F E w → RelVs φ ar vs → Fn P f vs.toArray w (PostN φ I F E nx nx x H' nx')
def evCl (call : CallE) (g : Nat → EV) (H : Hp) (nx : Nat) (op : Op) : Option (EV × Hp × Nat) :=
 match op with
 | .call ⟨.value fo, ar, _⟩ => match evO g fo, mpO (evO g) ar.toList with
  | some (.fn f a c), some m => call f (a ++ m ++ c) H nx
  | _, _ => none
 | _ => none
def evOp (T : TT) (call : CallE) (g : Nat → EV) (H : Hp) (k nx : Nat) (op : Op) : Option (EV × Hp × Nat) :=
 match evP T g op with
 | some x => some (x, H, nx)
 | none => match evL T g H op with
  | some x => some (x, H, nx)
  | none => match evA T g k op with
   | some (x, o) => some (x, H.set k (some o), nx)
   | none => match evC T g H k op with
    | some (x, H') => some (x, H', nx)
    | none => evCl call g H nx op
section
variable {P : Program} {φ : Phi} {g : Nat → EV} {ρ : Env} {w : World} {T : TT} {I : Ghost} {H H' : Hp} {k nx nx' : Nat} {F : List (Nat × Obj)} {E : World} {call : CallE}
theorem PostN.weak {x : EV} {v : Value} (h : PostN φ I F E nx nx x H' nx' v w) : PostN φ I F E k nx x H' nx' v w :=
 let ⟨J, ψ, a, b, c, d, e, f⟩ := h; ⟨J, ψ, a, b, fun j hj _ => c j hj (Nat.ne_of_lt hj), d, e, f⟩
theorem RelE.setO {G : Tr EV} (hg : RelE φ (gt G) ρ) {x : EV} {v : Value} (hx : RelV φ x v) (d : Option Nat) : RelE φ (gt (setO G d x)) (updO ρ d v) := by
 cases d with
 | none => exact hg
 | some d =>
  intro t
  show RelV φ (((G.set d (some x)).get t).getD .u) (upd ρ d v t)
  rw [Tr.get_set]
  by_cases e : t = d
  ·rw [if_pos e]; subst e; rw [upd_same]; exact hx
  ·rw [if_neg e, upd_other _ _ e]; exact hg t
theorem evCl_ok (hC : CallOk P E call) (hg : RelE φ g ρ) (hR : Rel I φ H nx F E w) {o : Oper} {x : EV} (h : evCl call g H nx o.op = some (x, H', nx')) : OpW P o ρ w (PostN φ I F E k nx x H' nx') := by
 obtain ⟨dst, op, ty, pos, af, gu⟩ := o
 dsimp only at h
 unfold evCl at h
 split at h
 ·rename_i fo ar ts
  split at h
  ·rename_i f a c m hf hm
   obtain ⟨vs, us, he, h1, h2⟩ := evO_ok hg hf
   have hm := evOs_ok hg hm
   have hc := hC _ _ _ _ _ _ _ h φ I F w _ hR ((h1.append hm).append h2)
   obtain ⟨⟨fn, cd, h3, hb, hn⟩, hcalls⟩ := hc
   unfold OpW
   have hrun : (execOp (ev ρ) (Oper.mk dst (.call { callee := .value fo, args := ar, argTypes := ts }) ty pos af gu)).run P w = .ok (.enter f (vs ++ ar.toList.map (ev ρ) ++ us).toArray) w := by
    simp [execOp, resolve, he, Deferred.ofValue, invoke, callFunc, h3, hb, hn]
   rw [hrun]
   exact hcalls.mono fun e w' ⟨v, g1, g2⟩ => ⟨v, g1, g2.weak⟩
  ·cases h
 ·cases h
theorem evOp_ok (hT : TTok P T) (hC : CallOk P E call) (hg : RelE φ g ρ) (hR : Rel I φ H nx F E w) (hk : φ k = none) (hkx : k < nx) {o : Oper} {x : EV} (h : evOp T call g H k nx o.op = some (x, H', nx')) : OpW P o ρ w (PostN φ I F E k nx x H' nx') := by
 unfold evOp at h
 split at h
 ·rename_i y hy
  cases h
  obtain ⟨v, h1, h2⟩ := evP_ok (P := P) (w := w) hT hg hy
  exact OpW.val h1 (hR.stay h2)
 ·split at h
  ·rename_i y hy
   cases h
   obtain ⟨v, h1, h2⟩ := evL_ok hT hg hR hy
   exact OpW.val h1 (hR.stay h2)
  ·split at h
   ·rename_i y vo hy
    cases h
    obtain ⟨L, hr, hS⟩ := hR.freshN hk
    obtain ⟨v, w', q, A, h1, h2, h3, h4⟩ := evA_ok (P := P) hT hg hy hk hS
    exact OpW.val h1 ⟨I, φ.put k q, .refl _, yz hk q, fun j _ hj => put_ne φ q hj, Nat.le_refl _, h2, Rel.close (hr.mono (.refl _) (yz hk q)) h3 h4 (put_top hR.top hkx q)⟩
   ·split at h
    ·rename_i y H1 hy
     cases h
     exact evC_ok hT hg hR hk hkx hy
    ·exact evCl_ok hC hg hR h
end
def wantE (ops : List Oper) (g : Nat → EV) (o : Oper) : Option Bool :=
 match o.guard with
 | none => some true
 | some (j, b) => match (ops[j]?).bind (·.dst) with
  | some s => match g s with
   | .b b' => some (b' == b)
   | .tu _ => some false
   | _ => none
  | none => none
def evLit (T : TT) (call : CallE) (ops : List Oper) : List Oper → Tr EV → Hp → Nat → Option (Tr EV × Hp × Nat)
 | [], G, H, nx => some (G, H, nx)
 | o :: rest, G, H, nx => match wantE ops (gt G) o with
  | none => none
  | some t => bif t then
    match evOp T call (gt G) H nx (nx + 1) o.op with
    | some (x, H', nx') => evLit T call ops rest (setO G o.dst x) H' nx'
    | none => none
   else evLit T call ops rest (setO G o.dst (.tu [])) H nx
def PostS (φ : Phi) (I : Ghost) (F : List (Nat × Obj)) (E : World) (nx : Nat) (G : Tr EV) (H : Hp) (nx' : Nat) (ρ : Env) (w : World) : Prop :=
 ∃ J ψ, I.le J ∧ φ.le ψ ∧ (∀ j, j < nx → ψ j = φ j) ∧ nx ≤ nx' ∧ RelE ψ (gt G) ρ ∧ Rel J ψ H nx' F E w
section
variable {P : Program} {φ ψ : Phi} {g : Nat → EV} {ρ : Env} {w : World} {T : TT} {I J : Ghost} {H H' : Hp} {k nx nx' n : Nat} {F : List (Nat × Obj)} {E : World} {call : CallE} {G G' : Tr EV}
theorem PostS.up (hI : I.le J) (h : φ.le ψ) (hs : ∀ j, j < nx → ψ j = φ j) {n1 : Nat} (hn : nx ≤ n1) : PostS ψ J F E n1 G H nx' ρ w → PostS φ I F E nx G H nx' ρ w :=
 fun ⟨K, χ, a, b, c, d, e, f⟩ => ⟨K, χ, hI.trans a, h.trans b, fun j hj => (c j (by omega)).trans (hs j hj), by omega, e, f⟩
theorem want_ok {ops : List Oper} {o : Oper} {t : Bool} (hg : RelE φ g ρ) (h : wantE ops g o = some t) : wantedE ops.toArray o ρ = t := by
 unfold wantE at h
 unfold wantedE
 cases hgu : o.guard with
 | none => rw [hgu] at h; cases h; rfl
 | some jb =>
  obtain ⟨j, b⟩ := jb
  rw [hgu] at h
  simp only [List.getElem?_toArray] at h ⊢
  cases hd : (ops[j]?).bind (fun o : Oper => o.dst) with
  | none => rw [hd] at h; cases h
  | some s =>
   rw [hd] at h
   simp only at h ⊢
   have hs := hg s
   split at h
   ·rename_i b' hb
    cases h
    rw [hb] at hs
    have hs : ρ s = .bool b' := hs
    rw [hs]
   ·rename_i hb
    cases h
    rw [hb] at hs
    obtain ⟨vs, hs, _⟩ := hs
    rw [hs]
   ·cases h
theorem evLit_ok (hT : TTok P T) (hC : CallOk P E call) {ops : List Oper} : ∀ (rest : List Oper) (G : Tr EV) (H : Hp) (nx : Nat) (G' : Tr EV) (H' : Hp) (nx' : Nat), evLit T call ops rest G H nx = some (G', H', nx') →
  ∀ (φ : Phi) (I : Ghost) (ρ : Env) (w : World), RelE φ (gt G) ρ → Rel I φ H nx F E w → Ops P ops.toArray (PostS φ I F E nx G' H' nx') rest ρ w
 | [], G, H, nx, G', H', nx', h, φ, I, ρ, w, hg, hR => by
  cases h
  exact ⟨I, φ, .refl _, .refl _, fun _ _ => rfl, Nat.le_refl _, hg, hR⟩
 | o :: rest, G, H, nx, G', H', nx', h, φ, I, ρ, w, hg, hR => by
  unfold evLit at h
  split at h
  ·cases h
  ·rename_i t ht
   have hw := want_ok hg ht
   unfold Ops
   rw [hw]
   cases t with
   | false =>
    simp only [cond_false] at h
    rw [if_neg (by decide)]
    exact evLit_ok hT hC rest _ _ _ _ _ _ h φ I _ w (hg.setO (x := .tu []) (v := undef) ⟨[], rfl, rfl⟩ o.dst) hR
   | true =>
    simp only [cond_true] at h
    rw [if_pos rfl]
    split at h
    ·rename_i x H1 nx1 hx
     refine (evOp_ok hT hC hg (hR.mono (Nat.le_succ nx)) (hR.top nx (Nat.le_refl _)) (Nat.lt_succ_self nx) hx).mono fun v w' ⟨J, ψ, a, b, c, d, e, f⟩ => ?_
     have := evLit_ok hT hC rest _ _ _ _ _ _ h ψ J (updO ρ o.dst v) w' ((hg.mono b).setO e o.dst) f
     exact yv (fun _ _ => PostS.up a b (fun j hj => c j (by omega) (by omega)) (by omega)) _ _ _ this
    ·cases h
end
end Go.Proofs.YtoicilchhkndmaaGreatDoor
namespace Go.Proofs.YtoicilchhkndmaaGreatDoor
open Go.Proofs.Tryz
open Go.Proofs
def tmpOf : Operand → Option Nat
 | .tmp t => some t
 | _ => none
def lkE (l : List Oper) (o : Oper) : List Nat :=
 (match o.guard with
  | some (j, _) => (match (l[j]?).bind (·.dst) with
   | some s => [s]
   | none => [])
  | none => []) ++ o.op.operands.toList.filterMap tmpOf
def memN (t : Nat) : List Nat → Bool
 | [] => false
 | x :: l => Nat.beq t x || memN t l
theorem memN_iff {t : Nat} : ∀ {l : List Nat}, memN t l = true ↔ t ∈ l
 | [] => by simp [memN]
 | x :: l => by
  have ih := @memN_iff t l
  unfold memN
  rw [Bool.or_eq_true, ih, List.mem_cons]
  constructor
  ·rintro (h | h)
   ·exact .inl (Nat.eq_of_beq_eq_true h)
   ·exact .inr h
  ·rintro (h | h)
   ·exact .inl (by rw [h]; exact Nat.beq_refl x)
   ·exact .inr h
def msk (lk : List Nat) (G : Tr EV) : Nat → EV := fun t => bif memN t lk then gt G t else .u
inductive Rc where
 | pv (x : EV)
 | lv (x : EV)
 | av (x : EV) (o : VO)
 | cv (x : EV)
def Rc.x : Rc → EV
 | .pv x | .lv x | .av x _ | .cv x => x
def needP (nx0 : Nat) (p : Nat → Bool) : List Rc → Nat → List (Nat × VO)
 | [], _ => []
 | .av _ o :: rs, a => bif p a then (nx0 + a, o) :: needP nx0 p rs (a + 1) else needP nx0 p rs (a + 1)
 | _ :: rs, a => needP nx0 p rs (a + 1)
def addA : List (Nat × VO) → Hp → Option Hp
 | [], H => some H
 | (k, o) :: r, H => match H.get k with
  | none => addA r (H.set k (some o))
  | some _ => none
def ancOf (am : List Nat) (o : Oper) : Nat := o.after.toList.foldl (fun m e => bif Region.binds .any e then m ||| (2 ^ e.on ||| (am[e.on]?).getD 0) else m) 0
def ancs : List Oper → List Nat → List Nat
 | [], am => am
 | o :: r, am => ancs r (am ++ [ancOf am o])
abbrev Stg := Hp × Nat × Nat
def qA (fl m : Nat) (a : Nat) : Bool := m.testBit a && !fl.testBit a
def pass (T : TT) (call : CallE) (l : List Oper) (am : List Nat) (nx0 : Nat) : List Oper → Nat → List Rc → Tr EV → List Stg → Hp → Nat → Nat → Option Nat → Option (List Rc × Tr EV × List Stg)
 | [], _, rs, G, S, _, _, _, _ => some (rs, G, S)
 | o :: rest, i, rs, G, S, H, nx, fl, last =>
  let g := msk (lkE l o) G
  match wantE l g o with
  | none => none
  | some t => bif t then
    match evP T g o.op with
    | some x => pass T call l am nx0 rest (i + 1) (rs ++ [.pv x]) (setO G o.dst x) S H nx fl last
    | none => match evA T g (nx0 + i) o.op with
     | some (x, vo) => pass T call l am nx0 rest (i + 1) (rs ++ [.av x vo]) (setO G o.dst x) S H nx fl last
     | none =>
      match addA (needP nx0 (qA fl ((am[i]?).getD 0)) rs 0) H with
      | none => none
      | some H1 => match evL T g H1 o.op with
       | some x => pass T call l am nx0 rest (i + 1) (rs ++ [.lv x]) (setO G o.dst x) S H nx fl last
       | none => match (match evC T g H1 (nx0 + i) o.op with
         | some (x, H') => some (x, H', nx)
         | none => evCl call g H1 nx o.op) with
        | none => none
        | some (x, H', nx') => bif last.elim true (fun c => ((am[i]?).getD 0).testBit c) then
          pass T call l am nx0 rest (i + 1) (rs ++ [.cv x]) (setO G o.dst x) (S ++ [(H', nx', fl ||| (am[i]?).getD 0)]) H' nx' (fl ||| (am[i]?).getD 0) (some i)
         else none
   else pass T call l am nx0 rest (i + 1) (rs ++ [.pv (.tu [])]) (setO G o.dst (.tu [])) S H nx fl last
def isCv : Rc → Bool
 | .cv _ => true
 | _ => false
def cpos (R : List Rc) (i : Nat) : Nat := ((R.take i).filter isCv).length
def mayB_e (R : List Rc) (am : List Nat) (i j : Nat) : Bool :=
 (List.range R.length).all fun c => match R[c]? with
  | some (.cv _) => (!((am[i]?).getD 0).testBit c || Nat.blt (cpos R c) j) && (!((am[c]?).getD 0).testBit i || Nat.ble j (cpos R c))
  | _ => true
def chkL_e (T : TT) (l : List Oper) (am : List Nat) (nx0 : Nat) (R : List Rc) (G : Tr EV) (S : List Stg) : Bool :=
 (List.range R.length).all fun i => match R[i]?, l[i]? with
  | some (.lv x), some o => (List.range S.length).all fun j => !mayB_e R am i j || (match S[j]? with
   | some (H, _, fl) => (match addA (needP nx0 (qA fl ((am[i]?).getD 0)) (R.take i) 0) H with
    | some H1 => (match evL T (msk (lkE l o) G) H1 o.op with
     | some y => eqE 40 x y
     | none => false)
    | none => false)
   | none => false)
  | _, _ => true
where
 eqE : Nat → EV → EV → Bool
  | 0, _, _ => false
  | n + 1, x, y => match x, y with
   | .u, .u => true
   | .b a, .b c => a == c
   | .i k a, .i k' c => decide (k = k') && decide (a = c)
   | .s a, .s c => beqS a c
   | .np, .np => true
   | .p a b, .p c d => Nat.beq a c && Nat.beq b d
   | .ns, .ns => true
   | .sl a b c d e, .sl a' b' c' d' e' => Nat.beq a a' && Nat.beq b b' && Nat.beq c c' && Nat.beq d d' && (match e, e' with
    | .ex m, .ex m' => Nat.beq m m'
    | .en, .en => true
    | .un, .un => true
    | _, _ => false)
   | .ag l, .ag m => eqL n l m
   | .tu l, .tu m => eqL n l m
   | .fn f a c, .fn f' a' c' => Nat.beq f f' && eqL n a a' && eqL n c c'
   | .nf, .nf => true
   | .ifc t v, .ifc t' v' => Nat.beq t t' && eqE n v v'
   | .ni, .ni => true
   | .m a, .m b => Nat.beq a b
   | .nm, .nm => true
   | _, _ => false
 eqL : Nat → List EV → List EV → Bool
  | 0, _, _ => false
  | _ + 1, [], [] => true
  | n + 1, x :: l, y :: m => eqE n x y && eqL n l m
  | _, _, _ => false
def stOk (l : List Oper) (am : List Nat) : Bool :=
 (List.range l.length).all fun i => match l[i]? with
  | some o => o.after.toList.all (fun e => !Region.binds .any e || Nat.blt e.on i) &&
    (List.range l.length).all fun j => match (l[j]?).bind (·.dst) with
     | some d => (!memN d (lkE l o) || ((am[i]?).getD 0).testBit j) && (Nat.beq i j || !(match o.dst with
      | some d' => Nat.beq d d'
      | none => false))
     | none => true
  | none => true
def evDraw (T : TT) (call : CallE) (l : List Oper) (G : Tr EV) (H : Hp) (nx : Nat) : Option (Tr EV × Hp × Nat) :=
 let am := ancs l []
 bif stOk l am then
  match pass T call l am nx l 0 [] G [(H, nx + l.length, 0)] H (nx + l.length) 0 none with
  | some (R, GF, S) => bif chkL_e T l am nx R GF S then
    match S.getLast? with
    | some (Hm, nm, fl) => match addA (needP nx (fun a => !fl.testBit a) R 0) Hm with
     | some H' => some (GF, H', nm)
     | none => none
    | none => none
   else none
  | none => none
 else none
end Go.Proofs.YtoicilchhkndmaaGreatDoor
namespace Go.Proofs.YtoicilchhkndmaaGreatDoor
open Go.Proofs.Tryz
open Go.Proofs
def ClosedX (l : List Oper) (X : Nat → Bool) : Prop := ∀ i o, X i = true → l[i]? = some o → ∀ e ∈ o.after, Region.binds .any e = true → X e.on = true
def EdgeLt (l : List Oper) : Prop := ∀ i o, l[i]? = some o → ∀ e ∈ o.after, Region.binds .any e = true → e.on < i
def AncOk (l : List Oper) (X : Nat → Bool) (am : List Nat) : Prop :=
 ∀ (i m : Nat) (o : Oper), am[i]? = some m → l[i]? = some o → (∀ j, m.testBit j = true → j < i) ∧ ((∀ e ∈ o.after, Region.binds .any e = true → X e.on = true) → ∀ j, m.testBit j = true → X j = true)
theorem ancOf_bits {am : List Nat} {o : Oper} {j : Nat} (h : (ancOf am o).testBit j = true) : ∃ e ∈ o.after, Region.binds .any e = true ∧ (j = e.on ∨ ∃ m, am[e.on]? = some m ∧ m.testBit j = true) := by
 unfold ancOf at h
 have key : ∀ (es : List Edge) (m0 : Nat), (es.foldl (fun m e => bif Region.binds .any e then m ||| (2 ^ e.on ||| (am[e.on]?).getD 0) else m) m0).testBit j = true → m0.testBit j = true ∨ ∃ e ∈ es, Region.binds .any e = true ∧ (j = e.on ∨ ∃ m, am[e.on]? = some m ∧ m.testBit j = true) := by
  intro es
  induction es with
  | nil => intro m0 h; exact .inl h
  | cons e es ih =>
   intro m0 h
   rw [List.foldl_cons] at h
   rcases ih _ h with h1 | ⟨e', h1, h2⟩
   ·cases hb : Region.binds .any e with
    | false => rw [hb] at h1; exact .inl h1
    | true =>
     rw [hb] at h1
     simp only [cond_true, Nat.testBit_or, Bool.or_eq_true] at h1
     rcases h1 with h1 | h1 | h1
     ·exact .inl h1
     ·refine .inr ⟨e, .head _, hb, .inl ?_⟩
      rw [Nat.testBit_two_pow] at h1
      exact (of_decide_eq_true h1).symm
     ·refine .inr ⟨e, .head _, hb, .inr ?_⟩
      cases hm : am[e.on]? with
      | none => rw [hm] at h1; simp at h1
      | some m => rw [hm] at h1; exact ⟨m, rfl, h1⟩
   ·exact .inr ⟨e', .tail _ h1, h2⟩
 rcases key o.after.toList 0 h with h1 | ⟨e, h1, h2⟩
 ·simp at h1
 ·exact ⟨e, by simpa using h1, h2⟩
theorem ancs_ok {l : List Oper} {X : Nat → Bool} (hX : ClosedX l X) (hE : EdgeLt l) : ∀ (r : List Oper) (am : List Nat), l.drop am.length = r → AncOk l X am → AncOk l X (ancs r am)
 | [], am, _, h => h
 | o :: r, am, hd, h => by
  unfold ancs
  have ho : l[am.length]? = some o := by
   have := congrArg (·[0]?) hd
   simpa using this
  refine ancs_ok hX hE r _ (by rw [q8, List.length_singleton]; have := congrArg (List.drop 1) hd; simpa [List.drop_drop] using this) fun i m o' hm ho' => ?_
  by_cases hi : i < am.length
  ·rw [List.getElem?_append_left hi] at hm
   exact h i m o' hm ho'
  ·have hlt := (List.getElem?_eq_some_iff.1 hm).1
   rw [q8, List.length_singleton] at hlt
   have hie : i = am.length := by omega
   subst hie
   rw [ho] at ho'; cases ho'
   rw [List.getElem?_append_right (Nat.le_refl _), Nat.sub_self] at hm
   simp only [List.getElem?_cons_zero, Option.some.injEq] at hm
   subst hm
   constructor
   ·intro j hj
    obtain ⟨e, h1, h2, h3⟩ := ancOf_bits hj
    have hlt := hE _ o ho e h1 h2
    rcases h3 with rfl | ⟨m, hm, hmj⟩
    ·exact hlt
    ·have hle : e.on < l.length := Nat.lt_trans hlt (List.getElem?_eq_some_iff.1 ho).1
     have := (h e.on m _ hm (q3 hle)).1 j hmj
     omega
   ·intro hall j hj
    obtain ⟨e, h1, h2, h3⟩ := ancOf_bits hj
    have hlt := hE _ o ho e h1 h2
    have hXe := hall e h1 h2
    rcases h3 with rfl | ⟨m, hm, hmj⟩
    ·exact hXe
    ·have hle : e.on < l.length := Nat.lt_trans hlt (List.getElem?_eq_some_iff.1 ho).1
     exact (h e.on m _ hm (q3 hle)).2 (fun e' h1' h2' => hX e.on _ hXe (q3 hle) e' h1' h2') j hmj
theorem ancs_get {l : List Oper} {X : Nat → Bool} (hX : ClosedX l X) (hE : EdgeLt l) : AncOk l X (ancs l []) := ancs_ok hX hE l [] rfl fun i m o h => by simp at h
section
variable {nx0 : Nat}
theorem needP_split {p q : Nat → Bool} : ∀ (R : List Rc) (a : Nat), (∀ j, q j = true → p j = true) → (needP nx0 p R a).Perm (needP nx0 q R a ++ needP nx0 (fun j => p j && !q j) R a)
 | [], _, _ => .refl _
 | .av x o :: R, a, h => by
  have ih := needP_split R (a + 1) h
  unfold needP
  cases hp : p a with
  | false =>
   have hq : q a = false := by cases hq : q a with
    | false => rfl
    | true => rw [h a hq] at hp; cases hp
   simp only [hq, cond_false, Bool.false_and]; exact ih
  | true =>
   cases hq : q a with
   | true => simp only [cond_true, Bool.not_true, Bool.and_false, cond_false, List.cons_append]; exact ih.cons _
   | false => simp only [cond_true, cond_false, Bool.not_false, Bool.and_true]; exact (ih.cons _).trans List.perm_middle.symm
 | .pv _ :: R, a, h => needP_split R (a + 1) h
 | .lv _ :: R, a, h => needP_split R (a + 1) h
 | .cv _ :: R, a, h => needP_split R (a + 1) h
theorem needP_congr {p q : Nat → Bool} : ∀ (R : List Rc) (a : Nat), (∀ j x o, R[j]? = some (.av x o) → p (a + j) = q (a + j)) → needP nx0 p R a = needP nx0 q R a
 | [], _, _ => rfl
 | r :: R, a, h => by
  have ih := needP_congr R (a + 1) fun j x o hj => (by omega : a + (j + 1) = a + 1 + j) ▸ h (j + 1) x o (by simpa using hj)
  cases r with
  | av x o =>
   unfold needP
   have := h 0 x o rfl
   rw [Nat.add_zero] at this
   rw [this, ih]
  | pv x => exact ih
  | lv x => exact ih
  | cv x => exact ih
theorem needP_app (p : Nat → Bool) : ∀ (R S : List Rc) (a : Nat), needP nx0 p (R ++ S) a = needP nx0 p R a ++ needP nx0 p S (a + R.length)
 | [], S, a => rfl
 | r :: R, S, a => by
  have ih := needP_app p R S (a + 1)
  rw [show a + 1 + R.length = a + (r :: R).length by rw [List.length_cons]; omega] at ih
  rw [List.cons_append]
  cases r with
  | av x o =>
   show (bif p a then (nx0 + a, o) :: needP nx0 p (R ++ S) (a + 1) else needP nx0 p (R ++ S) (a + 1)) = (bif p a then (nx0 + a, o) :: needP nx0 p R (a + 1) else needP nx0 p R (a + 1)) ++ needP nx0 p S (a + (Rc.av x o :: R).length)
   rw [ih]
   cases p a <;> rfl
  | pv x => exact ih
  | lv x => exact ih
  | cv x => exact ih
theorem needP_none {p : Nat → Bool} : ∀ (R : List Rc) (a : Nat), (∀ j, a ≤ j → p j = false) → needP nx0 p R a = []
 | [], _, _ => rfl
 | r :: R, a, h => by
  have ih := needP_none R (a + 1) fun j hj => h j (by omega)
  cases r with
  | av x o => unfold needP; rw [h a (Nat.le_refl _)]; exact ih
  | pv x => exact ih
  | lv x => exact ih
  | cv x => exact ih
end
section
variable {φ : Phi} {I : Ghost} {H H' : Hp} {nx k : Nat} {F A : List (Nat × Obj)} {E w : World} {o : VO}
theorem Rel.take (h : Rel I φ H nx (A ++ F) E w) (hb : RepB I φ k o A) (hk : H.get k = none) : Rel I φ (H.set k (some o)) nx F E w := by
 obtain ⟨M, L, hn, hm, hr, hS⟩ := h.ex
 refine Rel.close (A := A) (L := L) ⟨M, hn, fun j o' => ?_, hr⟩ hb (hS.perm ?_) h.top
 ·rw [hm j o']
  exact ⟨fun hj => ⟨fun e => (by subst e; rw [hk] at hj; cases hj), hj⟩, fun hj => hj.2⟩
 ·rw [← List.append_assoc, ← List.append_assoc]
  exact List.perm_append_comm.append_right F
theorem Rel.takeAll : ∀ {M : List (Nat × VO)} {L : List (Nat × Obj)} {H H' : Hp}, RepM I φ M L → addA M H = some H' → Rel I φ H nx (L ++ F) E w → Rel I φ H' nx F E w
 | [], L, H, H', h1, h2, h3 => by
  have h1 : L = [] := h1
  subst h1; cases h2; exact h3
 | (k, o) :: M, L, H, H', ⟨A, B, e, h1, h1'⟩, h2, h3 => by
  subst e
  unfold addA at h2
  split at h2
  ·rename_i hk
   rw [List.append_assoc] at h3
   exact Rel.takeAll h1' h2 (h3.take h1 hk)
  ·cases h2
theorem RepM.app : ∀ {M N : List (Nat × VO)} {L : List (Nat × Obj)}, RepM I φ (M ++ N) L → ∃ A B, L = A ++ B ∧ RepM I φ M A ∧ RepM I φ N B
 | [], N, L, h => ⟨[], L, rfl, rfl, h⟩
 | x :: M, N, L, ⟨A, B, e, h1, h2⟩ => by
  obtain ⟨C, D, e2, h3, h4⟩ := RepM.app h2
  exact ⟨A ++ C, D, by rw [e, e2, List.append_assoc], ⟨A, C, rfl, h1, h3⟩, h4⟩
theorem Rel.permF {F' : List (Nat × Obj)} (h : Rel I φ H nx F E w) (hp : F'.Perm F) : Rel I φ H nx F' E w := by
 obtain ⟨M, L, hn, hm, hr, hS⟩ := h.ex
 exact ⟨h.top, M, L, hn, hm, hr, hS.perm (hp.append_left L)⟩
end
theorem msk_congr {lk : List Nat} {G G' : Tr EV} (h : ∀ t ∈ lk, gt G t = gt G' t) : msk lk G = msk lk G' := by
 funext t
 unfold msk
 cases hm : memN t lk with
 | false => rfl
 | true => exact h t (memN_iff.1 hm)
def evK_e (T : TT) (call : CallE) (g : Nat → EV) (H : Hp) (k nx : Nat) (op : Op) : Option (EV × Hp × Nat) :=
 match evC T g H k op with
 | some (x, H') => some (x, H', nx)
 | none => evCl call g H nx op
def FactP (T : TT) (call : CallE) (l : List Oper) (am : List Nat) (nx0 : Nat) (R : List Rc) (GF : Tr EV) (S : List Stg) (i : Nat) (o : Oper) (r : Rc) : Prop :=
 ∃ t, wantE l (msk (lkE l o) GF) o = some t ∧ (t = false → r = .pv (.tu [])) ∧ (t = true → match r with
  | .pv x => evP T (msk (lkE l o) GF) o.op = some x
  | .av x vo => evA T (msk (lkE l o) GF) (nx0 + i) o.op = some (x, vo)
  | .lv _ => True
  | .cv x => ∃ H nx fl H1 H' nx', S[cpos R i]? = some (H, nx, fl) ∧ S[cpos R i + 1]? = some (H', nx', fl ||| (am[i]?).getD 0) ∧ addA (needP nx0 (qA fl ((am[i]?).getD 0)) (R.take i) 0) H = some H1 ∧
    evK_e T call (msk (lkE l o) GF) H1 (nx0 + i) nx o.op = some (x, H', nx') ∧ (cpos R i = 0 ∨ ∃ c y, R[c]? = some (.cv y) ∧ cpos R c + 1 = cpos R i ∧ ((am[i]?).getD 0).testBit c = true))
def PassOk (T : TT) (call : CallE) (l : List Oper) (am : List Nat) (nx0 : Nat) (i : Nat) (rs : List Rc) (G : Tr EV) (S : List Stg) (R : List Rc) (GF : Tr EV) (SF : List Stg) : Prop :=
 (∃ rr, R = rs ++ rr ∧ rr.length + i = l.length) ∧ (∃ ss, SF = S ++ ss) ∧ SF.length = (R.filter isCv).length + 1 ∧ (∀ t, (∀ j o, i ≤ j → l[j]? = some o → o.dst ≠ some t) → gt GF t = gt G t) ∧
  ∀ j o, i ≤ j → l[j]? = some o → ∃ r, R[j]? = some r ∧ FactP T call l am nx0 R GF SF j o r ∧ ∀ d, o.dst = some d → gt GF d = r.x
theorem gt_setO (G : Tr EV) (d : Option Nat) (x : EV) (t : Nat) : gt (setO G d x) t = if d = some t then x else gt G t := by
 cases d with
 | none => rw [if_neg (by simp)]; rfl
 | some d =>
  unfold gt setO
  rw [Tr.get_set]
  by_cases e : t = d
  ·rw [if_pos e, if_pos (by rw [e])]; rfl
  ·rw [if_neg e, if_neg (fun h => e (Option.some.inj h).symm)]
theorem pass_step {T : TT} {call : CallE} {l : List Oper} {am : List Nat} {nx0 : Nat} (hD : ∀ (i j : Nat) (o o' : Oper) d, l[i]? = some o → l[j]? = some o' → o.dst = some d → o'.dst = some d → i = j) (hW : ∀ (i : Nat) (o : Oper) t, l[i]? = some o → t ∈ lkE l o → ∀ (j : Nat) (o' : Oper), l[j]? = some o' → o'.dst = some t → j < i)
  {i : Nat} {o : Oper} {rs : List Rc} {G : Tr EV} {S S' : List Stg} {R : List Rc} {GF : Tr EV} {SF : List Stg} {r : Rc} (ho : l[i]? = some o) (hrs : rs.length = i) (hS : ∃ ss, S' = S ++ ss) (h : PassOk T call l am nx0 (i + 1) (rs ++ [r]) (setO G o.dst r.x) S' R GF SF)
  (hf : (∃ rr, R = rs ++ (r :: rr)) → (∃ ss, SF = S' ++ ss) → msk (lkE l o) GF = msk (lkE l o) G → FactP T call l am nx0 R GF SF i o r) : PassOk T call l am nx0 i rs G S R GF SF := by
 obtain ⟨⟨rr, h1, h1'⟩, ⟨ss, h2⟩, h3, h4, h5⟩ := h
 obtain ⟨s0, hs0⟩ := hS
 have hR : R = rs ++ (r :: rr) := by rw [h1]; simp
 have hget : R[i]? = some r := by rw [hR, List.getElem?_append_right (by omega), hrs, Nat.sub_self]; rfl
 refine ⟨⟨r :: rr, hR, by rw [List.length_cons]; omega⟩, ⟨s0 ++ ss, by rw [h2, hs0, List.append_assoc]⟩, h3, fun t ht => ?_, fun j o' hj ho' => ?_⟩
 ·rw [h4 t fun j o' hj ho' => ht j o' (by omega) ho', gt_setO, if_neg (ht i o (Nat.le_refl _) ho)]
 ·by_cases e : j = i
  ·subst e
   rw [ho] at ho'; cases ho'
   refine ⟨r, hget, hf ⟨rr, hR⟩ ⟨ss, h2⟩ (msk_congr fun t ht => ?_), fun d hd => ?_⟩
   ·rw [h4 t fun j' o' hj' ho2 e2 => by have := hW j o t ho ht j' o' ho2 e2; omega, gt_setO, if_neg fun e2 => by have := hW j o t ho ht j o ho e2; omega]
   ·rw [h4 d fun j' o' hj' ho2 e2 => by have := hD j j' o o' d ho ho2 hd e2; omega, gt_setO, if_pos hd]
  ·exact h5 j o' (by omega) ho'
theorem cpos_app {rs rr : List Rc} {c : Nat} (h : c ≤ rs.length) : cpos (rs ++ rr) c = cpos rs c := by
 unfold cpos; rw [List.take_append_of_le_length h]
theorem cpos_len (rs rr : List Rc) : cpos (rs ++ rr) rs.length = (rs.filter isCv).length := by
 unfold cpos; rw [List.take_left]
theorem pass_ok {T : TT} {call : CallE} {l : List Oper} {am : List Nat} {nx0 : Nat} (hD : ∀ (i j : Nat) (o o' : Oper) d, l[i]? = some o → l[j]? = some o' → o.dst = some d → o'.dst = some d → i = j) (hW : ∀ (i : Nat) (o : Oper) t, l[i]? = some o → t ∈ lkE l o → ∀ (j : Nat) (o' : Oper), l[j]? = some o' → o'.dst = some t → j < i) :
  ∀ (rest : List Oper) (i : Nat) (rs : List Rc) (G : Tr EV) (S : List Stg) (H : Hp) (nx fl : Nat) (last : Option Nat) (R : List Rc) (GF : Tr EV) (SF : List Stg), l.drop i = rest → i ≤ l.length → rs.length = i → S.length = (rs.filter isCv).length + 1 → S[(rs.filter isCv).length]? = some (H, nx, fl) →
   (∀ c, last = some c → (∃ y, rs[c]? = some (.cv y)) ∧ cpos rs c + 1 = (rs.filter isCv).length) → (last = none → (rs.filter isCv).length = 0) → pass T call l am nx0 rest i rs G S H nx fl last = some (R, GF, SF) → PassOk T call l am nx0 i rs G S R GF SF
 | [], i, rs, G, S, H, nx, fl, last, R, GF, SF, hd, hi, hrs, hS, hSl, hl1, hl2, h => by
  cases h
  have : i = l.length := by
   have := congrArg List.length hd
   simp at this; omega
  refine ⟨⟨[], by simp, by simpa using this⟩, ⟨[], by simp⟩, hS, fun _ _ => Z, fun j o hj ho => ?_⟩
  have := (List.getElem?_eq_some_iff.1 ho).1
  omega
 | o :: rest, i, rs, G, S, H, nx, fl, last, R, GF, SF, hd, hi, hrs, hS, hSl, hl1, hl2, h => by
  have ho : l[i]? = some o := by
   have := congrArg (·[0]?) hd
   simpa using this
  have hlt : i < l.length := (List.getElem?_eq_some_iff.1 ho).1
  have hd2 : l.drop (i + 1) = rest := by have := congrArg (List.drop 1) hd; simpa [List.drop_drop] using this
  have hcv : ∀ r : Rc, isCv r = false → ((rs ++ [r]).filter isCv).length = (rs.filter isCv).length := fun r hr => by
   rw [List.filter_append]; simp [hr]
  have hlast : ∀ r : Rc, isCv r = false → ∀ c, last = some c → (∃ y, (rs ++ [r])[c]? = some (.cv y)) ∧ cpos (rs ++ [r]) c + 1 = ((rs ++ [r]).filter isCv).length := fun r hr c hc => by
   obtain ⟨⟨y, hy⟩, h2⟩ := hl1 c hc
   have hcl := (List.getElem?_eq_some_iff.1 hy).1
   exact ⟨⟨y, by rw [List.getElem?_append_left hcl]; exact hy⟩, by rw [cpos_app (Nat.le_of_lt hcl), hcv r hr]; exact h2⟩
  have go : ∀ (r : Rc), isCv r = false → pass T call l am nx0 rest (i + 1) (rs ++ [r]) (setO G o.dst r.x) S H nx fl last = some (R, GF, SF) → PassOk T call l am nx0 (i + 1) (rs ++ [r]) (setO G o.dst r.x) S R GF SF := fun r hr hp =>
   pass_ok hD hW rest (i + 1) (rs ++ [r]) _ S H nx fl last R GF SF hd2 hlt (by simp [hrs]) (by rw [hcv r hr]; exact hS) (by rw [hcv r hr]; exact hSl) (hlast r hr) (fun e => by rw [hcv r hr]; exact hl2 e) hp
  unfold pass at h
  dsimp only at h
  split at h
  ·cases h
  ·rename_i t ht
   cases t with
   | false =>
    simp only [cond_false] at h
    exact pass_step hD hW ho hrs ⟨[], by simp⟩ (go (.pv (.tu [])) rfl h) fun _ _ hg => ⟨false, by rw [hg]; exact ht, fun _ => rfl, fun e => by cases e⟩
   | true =>
    simp only [cond_true] at h
    split at h
    ·rename_i x hx
     exact pass_step hD hW ho hrs ⟨[], by simp⟩ (go (.pv x) rfl h) fun _ _ hg => ⟨true, by rw [hg]; exact ht, fun e => (by cases e), fun _ => by rw [hg]; exact hx⟩
    ·split at h
     ·rename_i x vo hx
      exact pass_step hD hW ho hrs ⟨[], by simp⟩ (go (.av x vo) rfl h) fun _ _ hg => ⟨true, by rw [hg]; exact ht, fun e => (by cases e), fun _ => by rw [hg]; exact hx⟩
     ·split at h
      ·cases h
      ·rename_i H1 hH1
       split at h
       ·rename_i x hx
        exact pass_step hD hW ho hrs ⟨[], by simp⟩ (go (.lv x) rfl h) fun _ _ hg => ⟨true, by rw [hg]; exact ht, fun e => (by cases e), fun _ => trivial⟩
       ·split at h
        ·cases h
        ·rename_i x H' nx' hx
         cases hb : last.elim true (fun c => ((am[i]?).getD 0).testBit c) with
         | false => rw [hb] at h; cases h
         | true =>
          rw [hb] at h
          simp only [cond_true] at h
          have hcv1 : ((rs ++ [Rc.cv x]).filter isCv).length = (rs.filter isCv).length + 1 := by rw [List.filter_append, q8]; rfl
          have hrec := pass_ok hD hW rest (i + 1) (rs ++ [.cv x]) (setO G o.dst x) (S ++ [(H', nx', fl ||| (am[i]?).getD 0)]) H' nx' (fl ||| (am[i]?).getD 0) (some i) R GF SF hd2 hlt (by simp [hrs]) (by rw [hcv1, q8, hS]; rfl) (by rw [hcv1, List.getElem?_append_right (by omega), hS, Nat.sub_self]; rfl)
           (fun c hc => by
            cases hc
            exact ⟨⟨x, by rw [List.getElem?_append_right (by omega), hrs, Nat.sub_self]; rfl⟩, by rw [hcv1, ← hrs, cpos_len]⟩) (fun e => by cases e) h
          refine pass_step hD hW ho hrs ⟨_, rfl⟩ hrec fun ⟨rr, hR⟩ ⟨ss, hSF⟩ hg => ⟨true, by rw [hg]; exact ht, fun e => (by cases e), fun _=>?_⟩
          have hcp : cpos R i = (rs.filter isCv).length := by rw [hR, ← hrs, cpos_len]
          refine ⟨H, nx, fl, H1, H', nx', ?_, ?_, ?_, by rw [hg]; exact hx, ?_⟩
          ·rw [hcp, hSF, List.append_assoc, List.getElem?_append_left (by omega)]; exact hSl
          ·rw [hcp, hSF, List.getElem?_append_left (by rw [q8, hS]; simp), List.getElem?_append_right (by omega), hS, Nat.sub_self]; rfl
          ·rw [hR, ← hrs, List.take_left, hrs]; exact hH1
          ·cases last with
           | none => left; rw [hcp]; exact hl2 rfl
           | some c =>
            right
            obtain ⟨⟨y, hy⟩, h2⟩ := hl1 c rfl
            have hcl := (List.getElem?_eq_some_iff.1 hy).1
            exact ⟨c, y, by rw [hR, List.getElem?_append_left hcl]; exact hy, by rw [hcp, hR, cpos_app (Nat.le_of_lt hcl)]; exact h2, hb⟩
def stX (listed : Array Bool) (i : Nat) : Bool := listed.getD i false
theorem stX_set {listed : Array Bool} {i j : Nat} (h : i < listed.size) : stX (listed.setIfInBounds i true) j = (stX listed j || Nat.beq j i) := by
 unfold stX
 by_cases e : i = j
 ·subst e
  rw [show Nat.beq i i = true from Nat.beq_refl i, Bool.or_true]
  simp [h]
 ·rw [getD_set_ne false e]
  have : Nat.beq j i = false := by cases hb : Nat.beq j i with
   | false => rfl
   | true => exact absurd (Nat.eq_of_beq_eq_true hb).symm e
  rw [this, Bool.or_false]
theorem stOk_spec {l : List Oper} {am : List Nat} (h : stOk l am = true) : EdgeLt l ∧ (∀ (i : Nat) (o : Oper) t, l[i]? = some o → t ∈ lkE l o → ∀ (j : Nat) (o' : Oper), l[j]? = some o' → o'.dst = some t → ((am[i]?).getD 0).testBit j = true) ∧
  ∀ (i j : Nat) (o o' : Oper) d, l[i]? = some o → l[j]? = some o' → o.dst = some d → o'.dst = some d → i = j := by
 have key : ∀ i o, l[i]? = some o → (o.after.toList.all (fun e => !Region.binds .any e || Nat.blt e.on i) &&
    (List.range l.length).all fun j => match (l[j]?).bind (·.dst) with
     | some d => (!memN d (lkE l o) || ((am[i]?).getD 0).testBit j) && (Nat.beq i j || !(match o.dst with
      | some d' => Nat.beq d d'
      | none => false))
     | none => true) = true := fun i o ho => by
  unfold stOk at h
  have := List.all_eq_true.1 h i (List.mem_range.2 (List.getElem?_eq_some_iff.1 ho).1)
  rw [ho] at this
  exact this
 have key2 : ∀ (i j : Nat) (o o' : Oper) d, l[i]? = some o → l[j]? = some o' → o'.dst = some d → (memN d (lkE l o) = true → ((am[i]?).getD 0).testBit j = true) ∧ (o.dst = some d → i = j) := fun i j o o' d ho ho' hd => by
  have h1 := key i o ho
  simp only [q9] at h1
  have h2 := List.all_eq_true.1 h1.2 j (List.mem_range.2 (List.getElem?_eq_some_iff.1 ho').1)
  rw [ho'] at h2
  simp only [Option.bind_some, hd, q9, Bool.or_eq_true, Bool.not_eq_true'] at h2
  refine ⟨fun hm => h2.1.resolve_left (by rw [hm]; decide), fun hod=>?_⟩
  rcases h2.2 with h3 | h3
  ·exact Nat.eq_of_beq_eq_true h3
  ·rw [hod] at h3
   simp only at h3
   rw [show Nat.beq d d = true from Nat.beq_refl d] at h3; cases h3
 refine ⟨fun i o ho e he hb => ?_, fun i o t ho ht j o' ho' hd => (key2 i j o o' t ho ho' hd).1 (memN_iff.2 ht), fun i j o o' d ho ho' hd hd' => (key2 i j o o' d ho ho' hd').2 hd⟩
 have h1 := key i o ho
 simp only [q9] at h1
 have h2 := List.all_eq_true.1 h1.1 e (by simpa using he)
 rw [hb] at h2
 have h2 : Nat.blt e.on i = true := by simpa using h2
 exact Nat.le_of_ble_eq_true h2
structure DInv_e (φ0 : Phi) (I0 : Ghost) (F : List (Nat × Obj)) (E : World) (nx0 : Nat) (l : List Oper) (R : List Rc) (GF : Tr EV) (S : List Stg) (X : Nat → Bool) (j : Nat) (φ : Phi) (I : Ghost) (H : Hp) (nx fl : Nat) (ρ : Env) (w : World) : Prop where
 closed : ClosedX l X
 stage : S[j]? = some (H, nx, fl)
 chain : ∀ i y, R[i]? = some (.cv y) → (X i = true ↔ cpos R i < j)
 flX : ∀ a, fl.testBit a = true → X a = true
 slots : ∀ t, (∀ (i : Nat) (o : Oper), l[i]? = some o → o.dst = some t → X i = true) → RelV φ (gt GF t) (ρ t)
 free : ∀ i, i < l.length → X i = false → φ (nx0 + i) = none
 le : φ0.le φ
 leI : I0.le I
 keep : ∀ t, t < nx0 → φ t = φ0 t
 top : nx0 + l.length ≤ nx
 mem : ∃ Lx, RepM I φ (needP nx0 (fun a => X a && !fl.testBit a) R 0) Lx ∧ Rel I φ H nx (Lx ++ F) E w
section
variable {φ0 φ : Phi} {I0 I : Ghost} {F : List (Nat × Obj)} {E w : World} {nx0 : Nat} {l : List Oper} {R : List Rc} {GF : Tr EV} {S : List Stg} {X : Nat → Bool} {j : Nat} {H : Hp} {nx fl : Nat} {ρ : Env}
theorem DInv_e.closed' (h : DInv_e φ0 I0 F E nx0 l R GF S X j φ I H nx fl ρ w) {i : Nat} {o : Oper} (ho : l[i]? = some o) (hr : ∀ e ∈ o.after, Region.binds .any e = true → X e.on = true) : ClosedX l (fun a => X a || Nat.beq a i) := fun a o' ha ho' e he hb => by
 simp only [Bool.or_eq_true] at ha ⊢
 rcases ha with ha | ha
 ·exact .inl (h.closed a o' ha ho' e he hb)
 ·have := Nat.eq_of_beq_eq_true ha
  subst this
  rw [ho] at ho'; cases ho'
  exact .inl (hr e he hb)
theorem DInv_e.slots' (h : DInv_e φ0 I0 F E nx0 l R GF S X j φ I H nx fl ρ w) {i : Nat} {o : Oper} (ho : l[i]? = some o) {x : EV} {v : Value} {ψ : Phi} (hle : φ.le ψ) (hx : RelV ψ x v) (hd : ∀ d, o.dst = some d → gt GF d = x) :
  ∀ t, (∀ (i' : Nat) (o' : Oper), l[i']? = some o' → o'.dst = some t → (X i' || Nat.beq i' i) = true) → RelV ψ (gt GF t) (updO ρ o.dst v t) := fun t ht => by
 by_cases e : o.dst = some t
 ·rw [hd t e, e]
  show RelV ψ x (upd ρ t v t)
  rw [upd_same]; exact hx
 ·have : updO ρ o.dst v t = ρ t := by
   cases hdd : o.dst with
   | none => rfl
   | some d => exact upd_other _ _ fun e2 => e (by rw [hdd, e2])
  rw [this]
  refine (h.slots t fun i' o' ho' hd' => ?_).mono hle
  have := ht i' o' ho' hd'
  simp only [Bool.or_eq_true] at this
  rcases this with h1 | h1
  ·exact h1
  ·have := Nat.eq_of_beq_eq_true h1
   subst this
   rw [ho] at ho'; cases ho'
   exact absurd hd' e
theorem DInv_e.quiet (h : DInv_e φ0 I0 F E nx0 l R GF S X j φ I H nx fl ρ w) {i : Nat} {o : Oper} (ho : l[i]? = some o) (hr : ∀ e ∈ o.after, Region.binds .any e = true → X e.on = true) {r : Rc} (hR : R[i]? = some r) (hcv : isCv r = false) (hav : ∀ x vo, r ≠ .av x vo) {v : Value} (hx : RelV φ r.x v) (hd : ∀ d, o.dst = some d → gt GF d = r.x) :
  DInv_e φ0 I0 F E nx0 l R GF S (fun a => X a || Nat.beq a i) j φ I H nx fl (updO ρ o.dst v) w := by
 refine ⟨h.closed' ho hr, h.stage, fun i' y hy => ?_, fun a ha => by rw [h.flX a ha]; rfl, h.slots' ho (.refl _) hx hd, fun i' hi' hx' => h.free i' hi' ?_, h.le, h.leI, h.keep, h.top, ?_⟩
 ·rw [← h.chain i' y hy]
  have : Nat.beq i' i = false := by cases hb : Nat.beq i' i with
   | false => rfl
   | true =>
    have := Nat.eq_of_beq_eq_true hb
    subst this
    rw [hR] at hy; cases hy; cases hcv
  rw [this, Bool.or_false]
 ·cases hX : X i' with
  | false => rfl
  | true => rw [hX] at hx'; cases hx'
 ·obtain ⟨Lx, h1, h2⟩ := h.mem
  refine ⟨Lx, ?_, h2⟩
  rw [needP_congr (q := fun a => X a && !fl.testBit a) R 0 fun a x vo ha => ?_]
  ·exact h1
  ·rw [Nat.zero_add]
   have : Nat.beq a i = false := by cases hb : Nat.beq a i with
    | false => rfl
    | true =>
     have := Nat.eq_of_beq_eq_true hb
     subst this
     rw [hR] at ha; cases ha; exact absurd rfl (hav x vo)
   simp only [this, Bool.or_false]
end
theorem needP_one {nx0 i : Nat} {R : List Rc} {x : EV} {vo : VO} (h : R[i]? = some (.av x vo)) : needP nx0 (fun a => Nat.beq a i) R 0 = [(nx0 + i, vo)] := by
 obtain ⟨hlt, he⟩ := List.getElem?_eq_some_iff.1 h
 have hR : R = R.take i ++ (.av x vo :: R.drop (i + 1)) := by
  rw [← he, ← List.drop_eq_getElem_cons hlt, List.take_append_drop]
 have hb : ∀ a, a ≠ i → Nat.beq a i = false := fun a ha => by
  cases hb : Nat.beq a i with
  | false => rfl
  | true => exact absurd (Nat.eq_of_beq_eq_true hb) ha
 have hl : (R.take i).length = i := by rw [List.length_take]; omega
 rw [hR, needP_app, hl, Nat.zero_add]
 have h1 : needP nx0 (fun a => Nat.beq a i) (R.take i) 0 = [] := by
  rw [needP_congr (q := fun _ => false) (R.take i) 0 fun j y o hj => ?_]
  ·exact needP_none _ _ fun _ _ => rfl
  ·have := (List.getElem?_eq_some_iff.1 hj).1
   rw [hl] at this
   exact hb _ (by omega)
 have h2 : needP nx0 (fun a => Nat.beq a i) (R.drop (i + 1)) (i + 1) = [] := needP_none _ _ fun a ha => hb a (by omega)
 rw [h1, List.nil_append]
 show (bif Nat.beq i i then (nx0 + i, vo) :: needP nx0 (fun a => Nat.beq a i) (R.drop (i + 1)) (i + 1) else needP nx0 (fun a => Nat.beq a i) (R.drop (i + 1)) (i + 1)) = _
 rw [show Nat.beq i i = true from Nat.beq_refl i, h2]; rfl
section
variable {P : Program} {T : TT} {φ0 φ : Phi} {I0 I : Ghost} {F : List (Nat × Obj)} {E w : World} {nx0 : Nat} {l : List Oper} {R : List Rc} {GF : Tr EV} {S : List Stg} {X : Nat → Bool} {j : Nat} {H : Hp} {nx fl : Nat} {ρ : Env}
theorem DInv_e.make (hT : TTok P T) (h : DInv_e φ0 I0 F E nx0 l R GF S X j φ I H nx fl ρ w) {i : Nat} {o : Oper} (ho : l[i]? = some o) (hXi : X i = false) (hr : ∀ e ∈ o.after, Region.binds .any e = true → X e.on = true) {x : EV} {vo : VO} (hR : R[i]? = some (.av x vo)) {g : Nat → EV} (hg : RelE φ g ρ) (hx : evA T g (nx0 + i) o.op = some (x, vo)) (hd : ∀ d, o.dst = some d → gt GF d = x) :
  OpW P o ρ w fun v w' => ∃ φ', DInv_e φ0 I0 F E nx0 l R GF S (fun a => X a || Nat.beq a i) j φ' I H nx fl (updO ρ o.dst v) w' := by
 have hil : i < l.length := (List.getElem?_eq_some_iff.1 ho).1
 have hk := h.free i hil hXi
 have hkx : nx0 + i < nx := by have := h.top; omega
 obtain ⟨Lx, hm, hRel⟩ := h.mem
 obtain ⟨M, L, hn, hM, hrep, hS⟩ := hRel.ex
 obtain ⟨v, w', q, A, h1, h2, h3, h4⟩ := evA_ok (P := P) hT hg hx hk hS
 have hle := yz hk q
 refine OpW.val h1 ⟨φ.put (nx0 + i) q, h.closed' ho hr, h.stage, fun i' y hy => ?_, fun a ha => by rw [h.flX a ha]; rfl, h.slots' ho hle h2 hd, fun i' hi' hx' => ?_, h.le.trans hle, h.leI, fun t ht => by rw [put_ne φ q (by omega)]; exact h.keep t ht, h.top, ?_⟩
 ·rw [← h.chain i' y hy]
  have : Nat.beq i' i = false := by cases hb : Nat.beq i' i with
   | false => rfl
   | true =>
    have := Nat.eq_of_beq_eq_true hb
    subst this
    rw [hR] at hy; cases hy
  rw [this, Bool.or_false]
 ·simp only [Bool.or_eq_false_iff] at hx'
  have : i' ≠ i := fun e => by rw [e, show Nat.beq i i = true from Nat.beq_refl i] at hx'; cases hx'.2
  rw [put_ne φ q (by omega)]; exact h.free i' hi' hx'.1
 ·have hfi : fl.testBit i = false := by cases hb : fl.testBit i with
   | false => rfl
   | true => rw [h.flX i hb] at hXi; cases hXi
  have hp : (needP nx0 (fun a => (X a || Nat.beq a i) && !fl.testBit a) R 0).Perm ((nx0 + i, vo) :: needP nx0 (fun a => X a && !fl.testBit a) R 0) := by
   have hs := needP_split (nx0 := nx0) (p := fun a => (X a || Nat.beq a i) && !fl.testBit a) (q := fun a => Nat.beq a i) R 0 fun a ha => by
    have := Nat.eq_of_beq_eq_true ha
    subst this
    simp [hfi]
   have e3 : needP nx0 (fun a => (X a || Nat.beq a i) && !fl.testBit a && !Nat.beq a i) R 0 = needP nx0 (fun a => X a && !fl.testBit a) R 0 := needP_congr R 0 fun a y o' ha => by
    rw [Nat.zero_add]
    cases hb : Nat.beq a i with
    | false => simp
    | true =>
     have := Nat.eq_of_beq_eq_true hb
     subst this
     simp [hXi]
   rw [needP_one hR, e3] at hs
   exact hs
  obtain ⟨L', h5, h6⟩ := RepM.perm hp.symm (L := A ++ Lx) ⟨A, Lx, rfl, h3, hm.mono (.refl _) hle⟩
  refine ⟨L', h5, put_top hRel.top hkx q, M, L, hn, hM, hrep.mono (.refl _) hle, h4.perm ?_⟩
  refine ((h6.symm.append_right F).append_left L).trans ?_
  rw [List.append_assoc, ← List.append_assoc, ← List.append_assoc A]
  exact List.perm_append_comm.append_right _
end
theorem cpos_lt {R : List Rc} {i i' : Nat} {y : EV} (h : i < i') (hi : R[i]? = some (.cv y)) : cpos R i < cpos R i' := by
 have hlt := (List.getElem?_eq_some_iff.1 hi).1
 have h1 : cpos R (i + 1) = cpos R i + 1 := by
  unfold cpos
  obtain ⟨_, he⟩ := List.getElem?_eq_some_iff.1 hi
  rw [q4 hlt, he, List.filter_append, q8]; rfl
 have h2 : cpos R (i + 1) ≤ cpos R i' := by
  unfold cpos
  exact ((List.take_sublist_take_left (l := R) (show i + 1 ≤ i' from h)).filter isCv).length_le
 omega
section
variable {P : Program} {T : TT} {call : CallE} {φ0 φ : Phi} {I0 I : Ghost} {F : List (Nat × Obj)} {E w : World} {nx0 : Nat} {l : List Oper} {R : List Rc} {GF : Tr EV} {S : List Stg} {X : Nat → Bool} {j : Nat} {H : Hp} {nx fl : Nat} {ρ : Env}
theorem DInv_e.heap (h : DInv_e φ0 I0 F E nx0 l R GF S X j φ I H nx fl ρ w) {i m : Nat} (hi : i ≤ R.length) (hb : ∀ a, m.testBit a = true → a < i ∧ X a = true) {H1 : Hp} (ha : addA (needP nx0 (qA fl m) (R.take i) 0) H = some H1) :
  ∃ B, RepM I φ (needP nx0 (fun a => (X a && !fl.testBit a) && !qA fl m a) R 0) B ∧ Rel I φ H1 nx (B ++ F) E w := by
 obtain ⟨Lx, hm, hR⟩ := h.mem
 have hq : ∀ a, qA fl m a = true → (fun a => X a && !fl.testBit a) a = true := fun a hq => by
  unfold qA at hq
  simp only [q9] at hq ⊢
  exact ⟨(hb a hq.1).2, hq.2⟩
 have hs := needP_split (nx0 := nx0) R 0 hq
 have hpre : needP nx0 (qA fl m) R 0 = needP nx0 (qA fl m) (R.take i) 0 := by
  have e : needP nx0 (qA fl m) (R.take i ++ R.drop i) 0 = needP nx0 (qA fl m) (R.take i) 0 ++ needP nx0 (qA fl m) (R.drop i) (0 + (R.take i).length) := needP_app _ _ _ _
  rw [List.take_append_drop] at e
  rw [e, needP_none (R.drop i) _ fun a ha => ?_, List.append_nil]
  rw [List.length_take] at ha
  unfold qA
  cases hbit : m.testBit a with
  | false => rfl
  | true => have := (hb a hbit).1; omega
 obtain ⟨L', h1, h2⟩ := hm.perm hs
 obtain ⟨A, B, rfl, h3, h4⟩ := RepM.app h1
 rw [hpre] at h3
 exact ⟨B, h4, Rel.takeAll h3 ha (by rw [← List.append_assoc]; exact hR.permF (h2.symm.append_right F))⟩
theorem DInv_e.write (hT : TTok P T) (hC : CallOk P E call) (h : DInv_e φ0 I0 F E nx0 l R GF S X j φ I H nx fl ρ w) {i m : Nat} {o : Oper} (ho : l[i]? = some o) (hil : i < R.length) (hXi : X i = false) (hr : ∀ e ∈ o.after, Region.binds .any e = true → X e.on = true) (hb : ∀ a, m.testBit a = true → a < i ∧ X a = true) {x : EV} (hR : R[i]? = some (.cv x)) (hj : cpos R i = j)
  {H1 H' : Hp} {nx' : Nat} (hS : S[j + 1]? = some (H', nx', fl ||| m)) (ha : addA (needP nx0 (qA fl m) (R.take i) 0) H = some H1) {g : Nat → EV} (hg : RelE φ g ρ) (hx : evK_e T call g H1 (nx0 + i) nx o.op = some (x, H', nx')) (hd : ∀ d, o.dst = some d → gt GF d = x) :
  OpW P o ρ w fun v w' => ∃ φ' I', DInv_e φ0 I0 F E nx0 l R GF S (fun a => X a || Nat.beq a i) (j + 1) φ' I' H' nx' (fl ||| m) (updO ρ o.dst v) w' := by
 have hil2 : i < l.length := (List.getElem?_eq_some_iff.1 ho).1
 have hk := h.free i hil2 hXi
 have hkx : nx0 + i < nx := by have := h.top; omega
 obtain ⟨B, hB, hRel⟩ := h.heap (Nat.le_of_lt hil) hb ha
 have hop : OpW P o ρ w (PostN φ I (B ++ F) E (nx0 + i) nx x H' nx') := by
  unfold evK_e at hx
  split at hx
  ·rename_i y H2 hc
   cases hx
   exact evC_ok hT hg hRel hk hkx hc
  ·exact evCl_ok hC hg hRel hx
 refine hop.mono fun v w' ⟨J, ψ, a, b, c, d, e, f⟩ => ⟨ψ, J, h.closed' ho hr, hS, fun i' y hy => ?_, fun t ht => ?_, h.slots' ho b e hd, fun i' hi' hx' => ?_, h.le.trans b, h.leI.trans a, fun t ht => by rw [c t (by have := h.top; omega) (by omega)]; exact h.keep t ht, by have := h.top; omega, B, ?_, f⟩
 ·by_cases e2 : i' = i
  ·subst e2
   rw [hj, show Nat.beq i' i' = true from Nat.beq_refl i', Bool.or_true]
   simp
  ·have hbq : Nat.beq i' i = false := by cases hb2 : Nat.beq i' i with
    | false => rfl
    | true => exact absurd (Nat.eq_of_beq_eq_true hb2) e2
   rw [hbq, Bool.or_false, h.chain i' y hy]
   have hne : cpos R i' ≠ j := fun e3 => by
    rcases Nat.lt_or_gt_of_ne e2 with h1 | h1
    ·have := cpos_lt h1 hy; omega
    ·have := cpos_lt h1 hR; omega
   omega
 ·rw [Nat.testBit_or, Bool.or_eq_true] at ht
  rcases ht with h1 | h1
  ·rw [h.flX t h1]; rfl
  ·rw [(hb t h1).2]; rfl
 ·simp only [Bool.or_eq_false_iff] at hx'
  have : i' ≠ i := fun e => by rw [e, show Nat.beq i i = true from Nat.beq_refl i] at hx'; cases hx'.2
  rw [c _ (by have := h.top; omega) (by omega)]; exact h.free i' hi' hx'.1
 ·rw [needP_congr (q := fun a => (X a && !fl.testBit a) && !qA fl m a) R 0 fun t y o' ht => ?_]
  ·exact hB.mono a b
  ·rw [Nat.zero_add]
   have hbq : Nat.beq t i = false := by cases hb2 : Nat.beq t i with
    | false => rfl
    | true =>
     have := Nat.eq_of_beq_eq_true hb2
     subst this
     rw [hR] at ht; cases ht
   simp only [hbq, Bool.or_false, qA, Nat.testBit_or]
   cases X t <;> cases fl.testBit t <;> cases m.testBit t <;> rfl
end
theorem eqE_ok : ∀ n, (∀ x y, chkL_e.eqE n x y = true → x = y) ∧ ∀ l m, chkL_e.eqL n l m = true → l = m
 | 0 => ⟨fun x y h => (by unfold chkL_e.eqE at h; cases h), fun l m h => (by unfold chkL_e.eqL at h; cases h)⟩
 | n + 1 => by
  obtain ⟨ih1, ih2⟩ := eqE_ok n
  have nb : ∀ {a b : Nat}, Nat.beq a b = true → a = b := fun h => Nat.eq_of_beq_eq_true h
  constructor
  ·intro x y h
   unfold chkL_e.eqE at h
   split at h
   case h_8 =>
    rename_i a b c d e a' b' c' d' e'
    simp only [q9] at h
    obtain ⟨⟨⟨⟨h1, h2⟩, h3⟩, h4⟩, h5⟩ := h
    rw [nb h1, nb h2, nb h3, nb h4]
    split at h5
    ·rw [nb h5]
    ·rfl
    ·rfl
    ·cases h5
   all_goals first
    | rfl
    | (cases h; done)
    | (simp only [q9, decide_eq_true_eq] at h; rw [h.1, h.2]; done)
    | (simp only [q9] at h; rw [nb h.1, nb h.2]; done)
    | (rw [ih2 _ _ h]; done)
    | (rw [nb h]; done)
    | (simp only [q9] at h; rw [nb h.1.1, ih2 _ _ h.1.2, ih2 _ _ h.2]; done)
    | (simp only [q9] at h; rw [nb h.1, ih1 _ _ h.2]; done)
    | (rw [beqS_eq] at h; rw [of_decide_eq_true h]; done)
    | (rw [beq_iff_eq.1 h]; done)
  ·intro l m h
   unfold chkL_e.eqL at h
   split at h
   ·cases ‹_ = 0›
   ·rfl
   ·simp only [q9] at h
    first
     | rw [ih1 _ _ h.1, ih2 _ _ h.2]
     | (rename_i e; cases e; rw [ih1 _ _ h.1, ih2 _ _ h.2])
   ·cases h
theorem anc_bits {l : List Oper} {X : Nat → Bool} (hX : ClosedX l X) (hE : EdgeLt l) {i : Nat} {o : Oper} (ho : l[i]? = some o) (hr : ∀ e ∈ o.after, Region.binds .any e = true → X e.on = true) : ∀ a, (((ancs l [])[i]?).getD 0).testBit a = true → a < i ∧ X a = true := fun a ha => by
 cases hm : (ancs l [])[i]? with
 | none => rw [hm] at ha; simp at ha
 | some m =>
  rw [hm] at ha
  obtain ⟨h1, h2⟩ := ancs_get hX hE i m o hm ho
  exact ⟨h1 a ha, h2 hr a ha⟩
theorem cnt_lt {p q : Nat → Bool} {i : Nat} (hp : p i = true) (hq : q i = false) (h : ∀ a, q a = true → p a = true) : ∀ l : List Nat, i ∈ l → (l.filter q).length < (l.filter p).length
 | [], hi => by cases hi
 | a :: l, hi => by
  have le : ∀ l : List Nat, (l.filter q).length ≤ (l.filter p).length := fun l => by
   induction l with
   | nil => exact Nat.le_refl _
   | cons b l ih =>
    rw [List.filter_cons, List.filter_cons]
    cases hb : q b with
    | true => rw [if_pos rfl, if_pos (h b hb)]; simpa using ih
    | false => rw [if_neg (by decide)]; split <;> (try rw [List.length_cons]) <;> omega
  rcases List.mem_cons.1 hi with rfl | hi
  ·rw [List.filter_cons, List.filter_cons, if_neg (by rw [hq]; decide), if_pos hp, List.length_cons]
   have := le l; omega
  ·have ih := cnt_lt hp hq h l hi
   rw [List.filter_cons, List.filter_cons]
   cases hb : q a with
   | true => rw [if_pos rfl, if_pos (h a hb)]; simpa using ih
   | false => rw [if_neg (by decide)]; split <;> (try rw [List.length_cons]) <;> omega
section
variable {P : Program} {T : TT} {call : CallE} {φ0 φ : Phi} {I0 I : Ghost} {F : List (Nat × Obj)} {E w : World} {nx0 : Nat} {l : List Oper} {R : List Rc} {GF G0 : Tr EV} {S S0 : List Stg} {X : Nat → Bool} {j : Nat} {H : Hp} {nx fl : Nat} {ρ : Env}
theorem DInv_e.step (hT : TTok P T) (hC : CallOk P E call) (hst : stOk l (ancs l []) = true) (hP : PassOk T call l (ancs l []) nx0 0 [] G0 S0 R GF S) (hL : chkL_e T l (ancs l []) nx0 R GF S = true) (h : DInv_e φ0 I0 F E nx0 l R GF S X j φ I H nx fl ρ w) {i : Nat} {o : Oper} (ho : l[i]? = some o) (hXi : X i = false) (hr : ∀ e ∈ o.after, Region.binds .any e = true → X e.on = true) :
  Ops P l.toArray (fun ρ' w' => ∃ j φ I H nx fl, DInv_e φ0 I0 F E nx0 l R GF S (fun a => X a || Nat.beq a i) j φ I H nx fl ρ' w') [o] ρ w := by
 obtain ⟨hE, hW, _⟩ := stOk_spec hst
 obtain ⟨⟨rr, hRR, hlen⟩, _, hSl, _, hall⟩ := hP
 obtain ⟨r, hRi, ⟨t, hw, hf, htr⟩, hd⟩ := hall i o (q5 _) ho
 have hbits := anc_bits h.closed hE ho hr
 have hgm : RelE φ (msk (lkE l o) GF) ρ := fun t' => by
  unfold msk
  cases hm : memN t' (lkE l o) with
  | false => trivial
  | true => exact h.slots t' fun i' o' ho' hd' => (hbits i' (hW i o t' ho (memN_iff.1 hm) i' o' ho' hd')).2
 have hwt := want_ok hgm hw
 have hil : i < R.length := (List.getElem?_eq_some_iff.1 hRi).1
 unfold Ops
 rw [hwt]
 cases t with
 | false =>
  rw [if_neg (by decide)]
  have := hf rfl
  subst this
  exact ⟨j, φ, I, H, nx, fl, h.quiet ho hr hRi rfl (fun _ _ e => by cases e) (v := undef) ⟨[], rfl, rfl⟩ hd⟩
 | true =>
  rw [if_pos rfl]
  have htr := htr rfl
  cases r with
  | pv x =>
   obtain ⟨v, h1, h2⟩ := evP_ok (P := P) (w := w) hT hgm htr
   exact OpW.val h1 ⟨j, φ, I, H, nx, fl, h.quiet ho hr hRi rfl (fun _ _ e => by cases e) h2 hd⟩
  | av x vo => exact (h.make hT ho hXi hr hRi hgm htr hd).mono fun v w' ⟨φ', h'⟩ => ⟨j, φ', I, H, nx, fl, h'⟩
  | lv x =>
   have hmay : mayB_e R (ancs l []) i j = true := by
    unfold mayB_e
    refine List.all_eq_true.2 fun c hc => ?_
    have hcl := List.mem_range.1 hc
    split
    ·rename_i y hy
     have hcc := h.chain c y hy
     simp only [q9, Bool.or_eq_true, Bool.not_eq_true']
     constructor
     ·cases hb : (((ancs l [])[i]?).getD 0).testBit c with
      | false => exact .inl rfl
      | true => exact .inr (Nat.ble_eq_true_of_le (hcc.1 (hbits c hb).2))
     ·cases hb : (((ancs l [])[c]?).getD 0).testBit i with
      | false => exact .inl rfl
      | true =>
       refine .inr (Nat.ble_eq_true_of_le ?_)
       refine Nat.le_of_not_lt fun hlt=>?_
       have hXc := hcc.2 hlt
       have hcl2 : c < l.length := by rw [hRR, List.nil_append] at hcl; omega
       have := (anc_bits h.closed hE (q3 hcl2) (fun e he hb => h.closed c _ hXc (q3 hcl2) e he hb) i hb).2
       rw [hXi] at this; cases this
    ·rfl
   unfold chkL_e at hL
   have h1 := List.all_eq_true.1 hL i (List.mem_range.2 hil)
   rw [hRi, ho] at h1
   simp only at h1
   have hjl := (List.getElem?_eq_some_iff.1 h.stage).1
   have h2 := List.all_eq_true.1 h1 j (List.mem_range.2 hjl)
   rw [hmay, h.stage] at h2
   simp only [Bool.not_true, Bool.false_or] at h2
   split at h2
   ·rename_i H1 hadd
    split at h2
    ·rename_i y hy
     have hxy := (eqE_ok 40).1 x y h2
     subst hxy
     obtain ⟨B, hB, hRel⟩ := h.heap (Nat.le_of_lt hil) hbits hadd
     obtain ⟨v, h3, h4⟩ := evL_ok hT hgm hRel hy
     exact OpW.val h3 ⟨j, φ, I, H, nx, fl, h.quiet ho hr hRi rfl (fun _ _ e => by cases e) h4 hd⟩
    ·cases h2
   ·cases h2
  | cv x =>
   obtain ⟨H2, nx2, fl2, H1, H', nx', s1, s2, s3, s4, s5⟩ := htr
   have hge : ¬ cpos R i < j := fun hlt => by rw [(h.chain i x hRi).2 hlt] at hXi; cases hXi
   have hj : cpos R i = j := by
    rcases s5 with e | ⟨c, y, hc, e, hb⟩
    ·omega
    ·have := (h.chain c y hc).1 (hbits c hb).2
     omega
   rw [hj, h.stage] at s1
   cases s1
   rw [hj] at s2
   exact (h.write hT hC ho hil hXi hr hbits hRi hj s2 s3 hgm s4 hd).mono fun v w' ⟨φ', I', h'⟩ => ⟨j + 1, φ', I', H', nx', _, h'⟩
end
theorem last_cv : ∀ (R : List Rc), 0 < (R.filter isCv).length → ∃ c y, R[c]? = some (.cv y) ∧ cpos R c + 1 = (R.filter isCv).length
 | [], h => by simp at h
 | r :: R, h => by
  have hc : ∀ c, cpos (r :: R) (c + 1) = (if isCv r = true then 1 else 0) + cpos R c := fun c => by
   unfold cpos
   rw [List.take_succ_cons, List.filter_cons]
   split
   ·rw [List.length_cons]; omega
   ·omega
  have hf : ((r :: R).filter isCv).length = (if isCv r = true then 1 else 0) + (R.filter isCv).length := by
   rw [List.filter_cons]
   split
   ·rw [List.length_cons]; omega
   ·omega
  by_cases hR : 0 < (R.filter isCv).length
  ·obtain ⟨c, y, h1, h2⟩ := last_cv R hR
   exact ⟨c + 1, y, by simpa using h1, by rw [hc, hf]; omega⟩
  ·cases r with
   | cv y => exact ⟨0, y, rfl, by rw [hf]; show 0 + 1 = 1 + _; omega⟩
   | pv x => exact absurd h (by rw [hf, if_neg (fun e => by cases e)]; omega)
   | lv x => exact absurd h (by rw [hf, if_neg (fun e => by cases e)]; omega)
   | av x o => exact absurd h (by rw [hf, if_neg (fun e => by cases e)]; omega)
section
variable {P : Program} {φ : Phi} {ρ : Env} {w : World} {T : TT} {I : Ghost} {F : List (Nat × Obj)} {E : World} {call : CallE}
theorem evDraw_ok (hT : TTok P T) (hC : CallOk P E call) {l : List Oper} {G G' : Tr EV} {H H' : Hp} {nx nx' : Nat} (h : evDraw T call l G H nx = some (G', H', nx')) (hg : RelE φ (gt G) ρ) (hR : Rel I φ H nx F E w) {Q : Env → World → Prop} (hQ : ∀ ρ' w', PostS φ I F E nx G' H' nx' ρ' w' → Q ρ' w') :
  AnyV P l.toArray (fun _ => True) (fun _ => True) (fun _ => false) Q l.length (Array.replicate l.length false) ρ w := by
 unfold evDraw at h
 dsimp only at h
 cases hst : stOk l (ancs l []) with
 | false => rw [hst] at h; cases h
 | true =>
  rw [hst] at h
  simp only [cond_true] at h
  obtain ⟨hE, hW, hD⟩ := stOk_spec hst
  split at h
  ·rename_i R GF S hpass
   cases hL : chkL_e T l (ancs l []) nx R GF S with
   | false => rw [hL] at h; cases h
   | true =>
    rw [hL] at h
    simp only [cond_true] at h
    split at h
    ·rename_i Hm nm flm hlast
     split at h
     ·rename_i H2 hadd
      cases h
      have hP := pass_ok hD (fun i o t ho ht j o' ho' hd' => (anc_bits (X := fun _ => true) (fun _ _ _ _ _ _ _ => rfl) hE ho (fun _ _ _ => rfl) j (hW i o t ho ht j o' ho' hd')).1) l 0 [] G [(H, nx + l.length, 0)] H (nx + l.length) 0 none R G' S rfl (q5 _) rfl rfl rfl (fun c hc => by cases hc) (fun _ => rfl) hpass
      obtain ⟨⟨rr, hRR, hlen⟩, ⟨ss, hSS⟩, hSl, hGF, _⟩ := id hP
      have hRl : R.length = l.length := by rw [hRR, List.nil_append]; omega
      have fin : ∀ (X : Nat → Bool) ρ' w', (∀ i, i < l.length → X i = true) → (∃ j ψ J H1 n1 fl, DInv_e φ I F E nx l R G' S X j ψ J H1 n1 fl ρ' w') → Q ρ' w' := fun X ρ' w' hall ⟨j, ψ, J, H1, n1, fl, hi⟩ => by
       have hjl := (List.getElem?_eq_some_iff.1 hi.stage).1
       have hj : j = (R.filter isCv).length := by
        by_cases h0 : 0 < (R.filter isCv).length
        ·obtain ⟨c, y, h1, h2⟩ := last_cv R h0
         have hc := (List.getElem?_eq_some_iff.1 h1).1
         have := (hi.chain c y h1).1 (hall c (by omega))
         omega
        ·omega
       rw [List.getLast?_eq_getElem?, hSl, Nat.add_sub_cancel, ← hj, hi.stage] at hlast
       cases hlast
       obtain ⟨Lx, h1, h2⟩ := hi.mem
       rw [needP_congr (q := fun a => !flm.testBit a) R 0 fun a y o ha => by
        have := (List.getElem?_eq_some_iff.1 ha).1
        rw [Nat.zero_add, hall a (by omega), Bool.true_and]] at h1
       exact hQ ρ' w' ⟨J, ψ, hi.leI, hi.le, hi.keep, by have := hi.top; omega, fun t => hi.slots t fun i' o' ho' _ => hall i' (List.getElem?_eq_some_iff.1 ho').1, Rel.takeAll h1 hadd h2⟩
      have main : ∀ (fuel : Nat) (listed : Array Bool) (ρ' : Env) (w' : World), listed.size = l.length → ((List.range l.length).filter fun i => !stX listed i).length ≤ fuel → (∃ j ψ J H1 n1 fl, DInv_e φ I F E nx l R G' S (stX listed) j ψ J H1 n1 fl ρ' w') → AnyV P l.toArray (fun _ => True) (fun _ => True) (fun _ => false) Q fuel listed ρ' w' := by
       have rdy : ∀ (listed : Array Bool), listed.size = l.length → Region.ready .any l.toArray listed = [] → ∀ i, i < l.length → stX listed i = true := fun listed hsz hre i => by
        induction i using Nat.strongRecOn with
        | _ i ih =>
         intro hi
         cases hX : stX listed i with
         | true => rfl
         | false =>
          have : i ∈ Region.ready .any l.toArray listed := mem_ready.2 ⟨by
           unfold stX at hX
           have : i < listed.size := by omega
           simp only [Array.getD_eq_getD_getElem?, Array.getElem?_eq_getElem this, Option.getD_some] at hX ⊢
           exact hX, l[i], by simp [hi], fun e he hb => by
           have := hE i l[i] (q3 hi) e he hb
           exact ih e.on this (by omega)⟩
          rw [hre] at this; cases this
       intro fuel
       induction fuel with
       | zero =>
        intro listed ρ' w' hsz hc hi
        have hall : ∀ i, i < l.length → stX listed i = true := fun i hil => by
         cases hX : stX listed i with
         | true => rfl
         | false =>
          have h0 : (List.range l.length).filter (fun i => !stX listed i) = [] := List.eq_nil_of_length_eq_zero (by omega)
          have := List.filter_eq_nil_iff.1 h0 i (List.mem_range.2 hil)
          rw [hX] at this; exact absurd rfl this
        refine ⟨?_, fin _ _ _ hall hi⟩
        refine List.eq_nil_iff_forall_not_mem.2 fun i hir => ?_
        obtain ⟨h1, o, ho, _⟩ := mem_ready.1 hir
        have hil : i < l.length := by
         have := (Array.getElem?_eq_some_iff.1 ho).1
         simpa using this
        have h2 := hall i hil
        unfold stX at h2
        have : i < listed.size := by omega
        simp only [Array.getD_eq_getD_getElem?, Array.getElem?_eq_getElem this, Option.getD_some] at h1 h2
        rw [h1] at h2; cases h2
       | succ fuel ih =>
        intro listed ρ' w' hsz hc hi
        refine ⟨fun hre => fin _ _ _ (rdy listed hsz hre) hi, fun i hir o ho => ?_⟩
        obtain ⟨h1, o2, ho2, hedge⟩ := mem_ready.1 hir
        rw [ho] at ho2; cases ho2
        have ho : l[i]? = some o := by simpa using ho
        have hil := (List.getElem?_eq_some_iff.1 ho).1
        have hXi : stX listed i = false := by
         unfold stX
         have : i < listed.size := by omega
         simp only [Array.getD_eq_getD_getElem?, Array.getElem?_eq_getElem this, Option.getD_some] at h1 ⊢
         exact h1
        obtain ⟨j, ψ, J, H1, n1, fl, hi⟩ := hi
        refine yv (fun ρ2 w2 hi2 => ⟨⟨trivial, .inr trivial⟩, ih _ ρ2 w2 (by simpa using hsz) ?_ ?_⟩) _ _ _ (hi.step hT hC hst hP hL ho hXi hedge)
        ·have hX : ∀ a, stX (listed.setIfInBounds i true) a = (stX listed a || Nat.beq a i) := fun a => stX_set (by omega)
         have := cnt_lt (p := fun i => !stX listed i) (q := fun a => !stX (listed.setIfInBounds i true) a) (i := i) (by rw [hXi]; rfl) (by rw [hX, show Nat.beq i i = true from Nat.beq_refl i]; simp) (fun a ha => by rw [hX] at ha; simp at ha ⊢; exact ha.1) (List.range l.length) (List.mem_range.2 hil)
         omega
        ·have e : stX (listed.setIfInBounds i true) = fun a => stX listed a || Nat.beq a i := funext fun a => stX_set (by omega)
         rw [e]; exact hi2
      have hX0 : ∀ i, stX (Array.replicate l.length false) i = false := fun i => by
       unfold stX
       simp only [Array.getD_eq_getD_getElem?, Array.getElem?_replicate]
       split <;> rfl
      refine main l.length _ ρ w (by simp) (by have := List.length_filter_le (fun i => !stX (Array.replicate l.length false) i) (List.range l.length); simpa using this) ⟨0, φ, I, H, nx + l.length, 0, ?_⟩
      refine ⟨fun i o hx => (by rw [hX0] at hx; cases hx), by rw [hSS]; rfl, fun i y _ => (by rw [hX0]; simp), fun a ha => (by simp at ha), fun t ht => ?_, fun i _ _ => hR.top _ (by omega), .refl _, .refl _, fun _ _ => rfl, Nat.le_refl _, [], ?_, hR.mono (by omega)⟩
      ·rw [hGF t fun i o _ ho hd' => by have := ht i o ho hd'; rw [hX0] at this; cases this]
       exact hg t
      ·rw [needP_none R 0 fun a _ => by simp [hX0]]; rfl
     ·cases h
    ·cases h
  ·cases h
end
end Go.Proofs.YtoicilchhkndmaaGreatDoor
namespace Go.Proofs.YtoicilchhkndmaaGreatDoor
open Go.Proofs.Tryz
open Go.Proofs
structure ES where
 G : Tr EV
 H : Hp
 nx : Nat
inductive Ex where
 | nrm
 | ret
 | exit (i : Nat)
def Ex.to : Ex → Exit
 | .nrm => .normal
 | .ret => .ret
 | .exit i => .exit i
def evLoop (f : ES → Option (Ex × ES)) : Nat → ES → Option (Ex × ES)
 | 0, _ => none
 | n + 1, s => match f s with
  | some (.nrm, s') => evLoop f n s'
  | r => r
def evCode (T : TT) (call : CallE) (fuel : Nat) : Code → ES → Option (Ex × ES)
 | .skip, s => some (.nrm, s)
 | .ret, s => some (.ret, s)
 | .exit i, s => some (.exit i, s)
 | .seq a b, s => match evCode T call fuel a s with
  | some (.nrm, s') => evCode T call fuel b s'
  | r => r
 | .cond c a b, s => match evO (gt s.G) c with
  | some (.b t) => bif t then evCode T call fuel a s else evCode T call fuel b s
  | _ => none
 | .block id c, s => match evCode T call fuel c s with
  | some (.exit i, s') => bif Nat.beq i id then some (.nrm, s') else some (.exit i, s')
  | r => r
 | .loop c, s => evLoop (evCode T call fuel c) fuel s
 | .region _ ops d, s => match (bif d then evDraw T call ops.toList s.G s.H s.nx else evLit T call ops.toList ops.toList s.G s.H s.nx) with
  | some (G, H, nx) => some (.nrm, ⟨G, H, nx⟩)
  | none => none
 | _, _ => none
def codeOk (n : Nat) : Code → Bool
 | .skip | .ret | .exit _ => true
 | .seq a b => codeOk n a && codeOk n b
 | .cond _ a b => codeOk n a && codeOk n b
 | .block _ c => codeOk n c
 | .loop c => codeOk n c
 | .region _ ops _ => dstsOk n ops.toList
 | _ => false
section
variable {P : Program} {T : TT} {call : CallE} {F : List (Nat × Obj)} {E : World} {n : Nat}
theorem evCode_ok (hm : P.follows .mixedOrders = true) (hT : TTok P T) (hC : CallOk P E call) (fuel : Nat) : ∀ (c : Code) (s s' : ES) (ex : Ex), codeOk n c = true → evCode T call fuel c s = some (ex, s') →
  ∀ (φ : Phi) (I : Ghost) (ρ : Env) (w : World) (Q : Exit → Env → World → Prop), RelE φ (gt s.G) ρ → Rel I φ s.H s.nx F E w → (∀ ρ' w', PostS φ I F E s.nx s'.G s'.H s'.nx ρ' w' → Q ex.to ρ' w') → WP P n c Q ρ w := by
 intro c
 induction c with
 | skip => intro s s' ex _ h φ I ρ w Q hg hR hQ; cases h; exact WP.skip (hQ _ _ ⟨I, φ, .refl _, .refl _, fun _ _ => rfl, Nat.le_refl _, hg, hR⟩)
 | ret => intro s s' ex _ h φ I ρ w Q hg hR hQ; cases h; exact WP.ret (hQ _ _ ⟨I, φ, .refl _, .refl _, fun _ _ => rfl, Nat.le_refl _, hg, hR⟩)
 | exit i => intro s s' ex _ h φ I ρ w Q hg hR hQ; cases h; exact WP.exit (hQ _ _ ⟨I, φ, .refl _, .refl _, fun _ _ => rfl, Nat.le_refl _, hg, hR⟩)
 | seq a b iha ihb =>
  intro s s' ex ho h φ I ρ w Q hg hR hQ
  simp only [codeOk, q9] at ho
  simp only [evCode] at h
  refine WP.seq ?_
  split at h
  ·rename_i s1 h1
   refine iha s s1 .nrm ho.1 h1 φ I ρ w _ hg hR fun ρ' w' ⟨J, ψ, a, b, c, d, e, f⟩ => ?_
   exact ihb s1 s' ex ho.2 h ψ J ρ' w' Q e f fun ρ2 w2 hp => hQ _ _ (PostS.up a b c d hp)
  ·rename_i hne
   refine iha s s' ex ho.1 h φ I ρ w _ hg hR fun ρ' w' hp => ?_
   cases ex with
   | nrm => exact absurd h (hne s')
   | ret => exact hQ _ _ hp
   | exit i => exact hQ _ _ hp
 | cond c a b iha ihb =>
  intro s s' ex ho h φ I ρ w Q hg hR hQ
  simp only [codeOk, q9] at ho
  simp only [evCode] at h
  split at h
  ·rename_i t ht
   have hc : ev ρ c = .bool t := evO_ok hg ht
   refine WP.cond hc ?_
   cases t with
   | true => rw [if_pos rfl]; exact iha s s' ex ho.1 h φ I ρ w Q hg hR hQ
   | false => rw [if_neg (by decide)]; exact ihb s s' ex ho.2 h φ I ρ w Q hg hR hQ
  ·cases h
 | block id c ih =>
  intro s s' ex ho h φ I ρ w Q hg hR hQ
  simp only [codeOk] at ho
  simp only [evCode] at h
  refine WP.block ?_
  split at h
  ·rename_i i s1 h1
   refine ih s s1 (.exit i) ho h1 φ I ρ w _ hg hR fun ρ' w' hp => ?_
   show if i = id then Q .normal ρ' w' else Q (.exit i) ρ' w'
   cases hb : Nat.beq i id with
   | true =>
    rw [hb] at h; cases h
    rw [if_pos (Nat.eq_of_beq_eq_true hb)]; exact hQ _ _ hp
   | false =>
    rw [hb] at h; cases h
    rw [if_neg (fun e => by rw [e, show Nat.beq id id = true from Nat.beq_refl id] at hb; cases hb)]; exact hQ _ _ hp
  ·rename_i hne
   refine ih s s' ex ho h φ I ρ w _ hg hR fun ρ' w' hp => ?_
   cases ex with
   | nrm => exact hQ _ _ hp
   | ret => exact hQ _ _ hp
   | exit i => exact absurd h (hne i s')
 | loop c ih =>
  intro s s' ex ho h φ I ρ w Q hg hR hQ
  simp only [codeOk] at ho
  simp only [evCode] at h
  refine WP.loop (γ := Nat × ES) (fun g ρ' w' => evLoop (evCode T call fuel c) g.1 g.2 = some (ex, s') ∧ PostS φ I F E s.nx g.2.G g.2.H g.2.nx ρ' w') (fun g => g.1) (fuel, s) ⟨h, I, φ, .refl _, .refl _, fun _ _ => Z, Nat.le_refl _, hg, hR⟩ ?_
  rintro ⟨k, s1⟩ ρ1 w1 ⟨h1, J, ψ, a, b, c1, d, e, f⟩
  cases k with
  | zero => cases h1
  | succ k =>
   simp only [evLoop] at h1
   split at h1
   ·rename_i s2 h2
    refine ih s1 s2 .nrm ho h2 ψ J ρ1 w1 _ e f fun ρ2 w2 hp => ?_
    exact ⟨(k, s2), ⟨h1, PostS.up a b c1 d hp⟩, Nat.lt_succ_self k⟩
   ·rename_i hne
    refine ih s1 s' ex ho h1 ψ J ρ1 w1 _ e f fun ρ2 w2 hp => ?_
    cases ex with
    | nrm => exact absurd h1 (hne s')
    | ret => exact hQ _ _ (PostS.up a b c1 d hp)
    | exit i => exact hQ _ _ (PostS.up a b c1 d hp)
 | region id ops dr =>
  intro s s' ex ho h φ I ρ w Q hg hR hQ
  simp only [codeOk] at ho
  simp only [evCode] at h
  have eo : ops = ops.toList.toArray := by simp
  split at h
  ·rename_i G H nx hr
   cases h
   rw [eo]
   cases dr with
   | false =>
    simp only [cond_false] at hr
    exact WP.region ho (yv (fun ρ' w' hp => hQ ρ' w' hp) _ _ _ (evLit_ok hT hC _ _ _ _ _ _ _ hr φ I ρ w hg hR))
   | true =>
    simp only [cond_true] at hr
    exact WP.regionDraw (fun _ => True) (fun _ => True) (fun _ => false) hm ho fun w' hw => by
     subst hw
     exact evDraw_ok hT hC hr hg hR.drew fun ρ' w' hp => hQ ρ' w' hp
  ·cases h
 | _ => intro s s' ex ho; cases ho
def putArgs : List EV → Nat → Tr EV → Tr EV
 | [], _, G => G
 | x :: l, i, G => putArgs l (i + 1) (G.set i (some x))
def evRes (T : TT) (G : Tr EV) (H : Hp) : List ResultVar → Option (List EV)
 | [] => some []
 | .tmp t :: r => match evRes T G H r with
  | some l => some (gt G t :: l)
  | none => none
 | .cell a t :: r => match gt G a, evRes T G H r with
  | .p b off, some l => match evLoad T H t b off with
   | some x => some (x :: l)
   | none => none
  | _, _ => none
def oneR : List EV → EV
 | [x] => x
 | l => .tu l
inductive NR where
 | v (x : EV)
 | ss (l : List ByteArray)
abbrev NatE := Nat → List EV → Option NR
def noNum (s : String) : Bool := !(s == "runtime.NumGoroutine")
def evFn (P : Program) (T : TT) (N : NatE) (fuel : Nat) : Nat → CallE
 | 0 => fun _ _ _ _ => none
 | d + 1 => fun f ar H nx => match N f ar with
  | some (.v x) => some (x, H, nx)
  | some (.ss l) => bif l.isEmpty then none else some (.sl nx 0 l.length 1 .un, H.set nx (some (.kn (l.map EV.s))), nx + 1)
  | none => match P.funcs[f]? with
   | some fn => match fn.body with
    | some c => bif Nat.ble ar.length fn.ntmps && codeOk fn.ntmps c && noNum fn.name then
      match evCode T (evFn P T N fuel d) fuel c ⟨putArgs ar 0 .lf, H, nx⟩ with
      | some (.exit _, _) => none
      | some (_, s) => match evRes T s.G s.H fn.results.toList with
       | some l => some (oneR l, s.H, s.nx)
       | none => none
      | none => none
     else none
    | none => none
   | none => none
def NatOk (P : Program) (E : World) (N : NatE) : Prop :=
 (∀ f ar x, N f ar = some (.v x) → ∃ as' r, AFun P E f as' r ∧ (∀ φ vs, RelVs φ ar vs → ∀ I : G, RepL I as' vs) ∧ ∀ (I : G) v, RepV I r v → ∀ φ, RelV φ x v) ∧
 ∀ f ar l, N f ar = some (.ss l) → ∃ as', AFun P E f as' (.fro 1 (l.map fun s => [AV.str s])) ∧ ∀ φ vs, RelVs φ ar vs → ∀ I : G, RepL I as' vs
theorem putArgs_get : ∀ (l : List EV) (i : Nat) (G : Tr EV) (t : Nat), gt (putArgs l i G) t = if i ≤ t ∧ t < i + l.length then (l[t - i]?).getD .u else gt G t
 | [], i, G, t => by rw [if_neg (by simp <;> omega)]; rfl
 | x :: l, i, G, t => by
  unfold putArgs
  rw [putArgs_get l (i + 1) (G.set i (some x)) t]
  by_cases h : i + 1 ≤ t ∧ t < i + 1 + l.length
  ·rw [if_pos h, if_pos (by simp only [List.length_cons]; omega), show t - i = (t - (i + 1)) + 1 by omega, List.getElem?_cons_succ]
  ·rw [if_neg h]
   unfold gt
   rw [Tr.get_set]
   by_cases e : t = i
   ·rw [if_pos e, if_pos (by simp only [List.length_cons]; omega), e, Nat.sub_self]; rfl
   ·rw [if_neg e, if_neg (by simp only [List.length_cons]; omega)]
theorem args_rel {φ : Phi} {ar : List EV} {vs : List Value} (h : RelVs φ ar vs) : RelE φ (gt (putArgs ar 0 .lf)) (env0 vs.toArray) := by
 intro t
 rw [putArgs_get]
 by_cases ht : t < ar.length
 ·rw [if_pos (by omega), Nat.sub_zero, q3 ht]
  obtain ⟨v, hv, hr⟩ := h.get (q3 ht)
  have : env0 vs.toArray t = v := by unfold env0; simp [hv]
  rw [this]; exact hr
 ·rw [if_neg (by omega)]; trivial
theorem evRes_ok {φ : Phi} {I : Ghost} {H : Hp} {nx : Nat} {w : World} {G : Tr EV} {ρ : Env} (hT : TTok P T) (hg : RelE φ (gt G) ρ) (hR : Rel I φ H nx F E w) : ∀ (rs : List ResultVar) (l : List EV), evRes T G H rs = some l →
  ∃ vs, RelVs φ l vs ∧ (rs.mapM (m := Sem) fun x => match x with
   | .tmp t => Pure.pure (ρ t)
   | .cell a t => do loadVar t (← asAddr (ρ a))).run P w = .ok vs w
 | [], l, h => by cases h; exact ⟨[], rfl, rfl⟩
 | .tmp t :: r, l, h => by
  unfold evRes at h
  split at h
  ·rename_i l' hl
   cases h
   obtain ⟨vs, h1, h2⟩ := evRes_ok hT hg hR r l' hl
   refine ⟨ρ t :: vs, ⟨_, _, Z, hg t, h1⟩, ?_⟩
   rw [List.mapM_cons]
   simp only [Sem.run_bind, Sem.run_pure, Result.andThen_ok, h2]
  ·cases h
 | .cell a t :: r, l, h => by
  unfold evRes at h
  split at h
  ·rename_i b off l' hp hl
   split at h
   ·rename_i x hx
    cases h
    obtain ⟨vs, h1, h2⟩ := evRes_ok hT hg hR r l' hl
    have ha := hg a
    rw [hp] at ha
    obtain ⟨v, h3, h4⟩ := evLoad_ok hT hR hx ha
    obtain ⟨q, hq, he⟩ := ha
    refine ⟨v :: vs, ⟨_, _, Z, h4, h1⟩, ?_⟩
    have h5 : (loadVar t ⟨q.r, q.sh + off, none⟩).run P w = .ok v w := by
     rw [he] at h3
     simpa [Instr.loadAt, Instr.sureAddr] using h3
    have h6 : (asAddr (ρ a)).run P w = .ok ⟨q.r, q.sh + off, none⟩ w := by rw [he]; rfl
    rw [List.mapM_cons]
    simp only [Sem.run_bind, h6, Sem.run_pure, Result.andThen_ok, h5, h2]
   ·cases h
  ·cases h
theorem natCall {N : NatE} (hN : NatOk P E N) {f : Nat} {ar : List EV} {x : EV} (h : N f ar = some (.v x)) {φ : Phi} {I : Ghost} {H : Hp} {nx : Nat} {w : World} {vs : List Value} (hR : Rel I φ H nx F E w) (hr : RelVs φ ar vs) : Fn P f vs.toArray w (PostN φ I F E nx nx x H nx) := by
 obtain ⟨as', r, hA, h1, h2⟩ := hN.1 f ar x h
 obtain ⟨M, L, hn, hm, hrep, hS⟩ := hR.ex
 refine (hA ⟨I, fun _ => none⟩ (L ++ F) w vs (h1 φ vs hr _) ⟨⟨0, fun _ _ => Z⟩, [], Z, hS⟩).mono fun v w' ⟨J, y, O', hJ, hy, ⟨_, L', hL', hS'⟩, he⟩ => ?_
 subst he
 exact ⟨J.k, φ, hJ.1, .refl _, fun _ _ _ => rfl, Nat.le_refl _, h2 J v hy φ, hR.top, M, L, hn, hm, hrep.mono hJ.1 (.refl _), hS'.dropAll⟩
theorem natCallS {N : NatE} (hN : NatOk P E N) {f : Nat} {ar : List EV} {l : List ByteArray} (h : N f ar = some (.ss l)) (hl : l.isEmpty = false) {φ : Phi} {I : Ghost} {H : Hp} {nx : Nat} {w : World} {vs : List Value} (hR : Rel I φ H nx F E w) (hr : RelVs φ ar vs) :
  Fn P f vs.toArray w (PostN φ I F E nx nx (.sl nx 0 l.length 1 .un) (H.set nx (some (.kn (l.map EV.s)))) (nx + 1)) := by
 obtain ⟨as', hA, h1⟩ := hN.2 f ar l h
 obtain ⟨L, hrest, hS⟩ := (hR.mono (Nat.le_succ nx)).freshN (hR.top nx (Nat.le_refl _))
 refine (hA ⟨I, fun _ => none⟩ (L ++ F) w vs (h1 φ vs hr _) ⟨⟨0, fun _ _ => Z⟩, [], Z, hS⟩).mono fun v w' ⟨J, y, O', hJ, hy, ⟨_, L', hL', hS'⟩, he⟩ => ?_
 subst he
 obtain ⟨a, n, cap, rfl, hn, hcap, _, hrr⟩ := hy
 rw [List.length_map] at hn
 subst hn
 obtain ⟨s0, l0, rfl⟩ : ∃ s0 l0, l = s0 :: l0 := by
  cases l with
  | nil => cases hl
  | cons s0 l0 => exact ⟨s0, l0, rfl⟩
 obtain ⟨b, off, _, rfl, _⟩ := hrr.get (j := 0) (r := [AV.str s0]) rfl
 have hk : φ nx = none := hR.top nx (Nat.le_refl _)
 have hat : ∀ (j : Nat) s, (s0 :: l0)[j]? = some s → KAt J.k b (off + j) (.string s) := fun j s hj => by
  obtain ⟨b2, off2, us, e, _, ⟨u, us2, rfl, h3, h4⟩, h5⟩ := hrr.get (j := j) (r := [AV.str s]) (by rw [List.getElem?_map, hj]; rfl)
  cases e
  have h3 : u = .string s := h3
  subst h3
  have := h5 0 _ rfl
  simpa using this
 refine ⟨J.k, φ.put nx ⟨b, off, 0⟩, hJ.1, yz hk _, fun j hj _ => put_ne φ _ (by omega), Nat.le_succ nx, ⟨_, off, cap, ym _ _ _, rfl, hcap, fun _ => rfl, trivial⟩,
  Rel.close (A := []) (hrest.mono hJ.1 (yz hk _)) ⟨⟨b, off, 0⟩, (s0 :: l0).map Value.string, ym _ _ _, ?_, fun u hu => ?_, fun j u hj => ?_, rfl⟩ hS'.dropAll (put_top (nx := nx + 1) (fun j hj => hR.top j (by omega)) (Nat.lt_succ_self nx) _)⟩
 ·clear hat hrr hl h hS' hS hrest hr
  generalize s0 :: l0 = m
  induction m with
  | nil => rfl
  | cons x m ih => exact ⟨_, _, rfl, rfl, ih⟩
 ·obtain ⟨s, _, rfl⟩ := List.mem_map.1 hu; rfl
 ·rw [List.getElem?_map] at hj
  obtain ⟨s, hs, rfl⟩ := Option.map_eq_some_iff.1 hj
  exact hat j s hs
theorem evFn_ok (hm : P.follows .mixedOrders = true) (hT : TTok P T) {N : NatE} (hN : NatOk P E N) (fuel : Nat) : ∀ d, CallOk P E (evFn P T N fuel d)
 | 0 => fun f ar H nx x H' nx' h => by cases h
 | d + 1 => fun f ar H nx x H' nx' h φ I F w vs hR hr => by
  unfold evFn at h
  split at h
  ·rename_i y hy
   cases h
   exact natCall hN hy hR hr
  ·rename_i l hy
   cases hl : l.isEmpty with
   | true => rw [hl] at h; cases h
   | false =>
    rw [hl] at h; cases h
    exact natCallS hN hy hl hR hr
  ·split at h
   ·rename_i fn h1
    split at h
    ·rename_i cd h2
     cases hb : (Nat.ble ar.length fn.ntmps && codeOk fn.ntmps cd && noNum fn.name) with
     | false => rw [hb] at h; cases h
     | true =>
      rw [hb] at h
      simp only [cond_true] at h
      simp only [q9] at hb
      have h3 : fn.name ≠ "runtime.NumGoroutine" := fun e => by
       have := hb.2
       unfold noNum at this
       rw [e] at this
       simp at this
      refine Fn.intro h1 h2 h3 (by rw [List.size_toArray, hr.length]; exact hb.1.1) ?_
      have fin : ∀ (s : ES), (match evRes T s.G s.H fn.results.toList with
        | some l => some (oneR l, s.H, s.nx)
        | none => none) = some (x, H', nx') → ∀ ρ' w', PostS φ I F E nx s.G s.H s.nx ρ' w' → ∃ v, resE fn.results ρ' P w' = .ok v w' ∧ PostN φ I F E nx nx x H' nx' v w' := fun s hs ρ' w' ⟨J, ψ, a, b, c, d', e', f'⟩ => by
       split at hs
       ·rename_i l hl
        cases hs
        obtain ⟨us, g1, g2⟩ := evRes_ok hT e' f' fn.results.toList l hl
        have g3 : (fn.results.mapM (m := Sem) fun x => match x with
          | .tmp t => Pure.pure (ρ' t)
          | .cell a t => do loadVar t (← asAddr (ρ' a))).run P w' = .ok us.toArray w' := by
         rw [Array.mapM_eq_mapM_toList, Sem.run_map]
         rw [g2]; rfl
        refine ⟨if h : us.toArray.size = 1 then us.toArray[0] else Value.tuple us.toArray, ?_, J, ψ, a, b, fun j hj _ => c j hj, d', ?_, f'⟩
        ·unfold resE
         rw [Sem.run_bind]
         exact (congrArg (fun r => Result.andThen r _) g3).trans rfl
        ·cases us with
         | nil =>
          have : l = [] := by have := g1.length; simpa using this.symm
          subst this
          exact ⟨[], rfl, rfl⟩
         | cons u us =>
          cases us with
          | nil =>
           obtain ⟨y, rfl⟩ : ∃ y, l = [y] := by
            have := g1.length
            match l, this with
            | [y], _ => exact ⟨y, rfl⟩
           exact g1.r1
          | cons u2 us =>
           have hl2 := g1.length
           match l, hl2, g1 with
           | x1 :: x2 :: l', _, g1 => exact ⟨u :: u2 :: us, by simp, g1⟩
       ·cases hs
      split at h
      ·cases h
      ·rename_i ex s hne hc
       refine evCode_ok hm hT (evFn_ok hm hT hN fuel d) fuel cd _ s ex hb.1.2 hc φ I _ w _ (args_rel hr) hR fun ρ' w' hp => ?_
       have := fin s h ρ' w' hp
       cases ex with
       | nrm => exact this
       | ret => exact this
       | exit i => exact (hne i rfl).elim
      ·cases h
    ·cases h
   ·cases h
def tiOf (P : Program) (t : Nat) : Option TI :=
 match P.underlying t, P.info? t with
 | some d, some f => match f.zero with
  | some zv => match mpO (litE 5) zv.cells.toList, litE 6 zv with
   | some z, some v => bif z.all EV.cell && Nat.beq z.length f.size then some ⟨d, f.size, f.bytes, z, v, !(P.eqGuardType P.depth t)⟩ else none
   | _, _ => none
  | none => none
 | _, _ => none
theorem tiOf_ok : TTok P (tiOf P) := fun t i h => by
 unfold tiOf at h
 split at h
 ·rename_i d f hd hf
  split at h
  ·rename_i zv hz
   split at h
   ·rename_i z v h1 h2
    cases hb : (z.all EV.cell && Nat.beq z.length f.size) with
    | false => rw [hb] at h; cases h
    | true =>
     rw [hb] at h; cases h
     simp only [q9] at hb
     exact ⟨hd, ⟨f, zv, hf, rfl, rfl, hz, fun φ => by simpa using mpO_rel (φ := φ) (g := id) (litE_ok 5) zv.cells.toList z h1, fun φ => litE_ok 6 zv v h2⟩, hb.1, Nat.eq_of_beq_eq_true hb.2, fun h => by simpa using h⟩
   ·cases h
  ·cases h
 ·cases h
theorem closed_true (hm : P.follows .mixedOrders = true) {N : NatE} (hN : NatOk P E N) {fuel d f : Nat} (h : (match evFn P (tiOf P) N fuel d f [] .lf 0 with
  | some (.b true, _, _) => true
  | _ => false) = true) : AFun P E f [] (.bool true) := fun I F w vs h1 h2 => by
 split at h
 ·rename_i H' nx' hx
  have h1 : vs = [] := h1
  subst h1
  obtain ⟨ht, L, hL, hS⟩ := h2
  have hL : L = [] := hL
  subst hL
  have hR : Rel I.k (fun _ => none) .lf 0 F E w := ⟨fun _ _ => rfl, [], [], List.nodup_nil, fun j o => by simp [Tr.get_lf], rfl, hS⟩
  refine (evFn_ok hm tiOf_ok hN fuel d f [] .lf 0 _ _ _ hx _ I.k F w [] hR Z).mono fun v w' ⟨J, ψ, a, b, c, d', e', f'⟩ => ?_
  exact ⟨⟨J, I.h⟩, .bool true, [], ⟨a, fun _ _ h => h⟩, e', ⟨ht, [], rfl, f'.sl⟩, rfl⟩
 ·cases h
end
end Go.Proofs.YtoicilchhkndmaaGreatDoor
namespace Go.Proofs.YtoicilchhkndmaaGreatDoor
open Go.Proofs.Tryz
open Go.Proofs Go.Lib Go.Shelf Go.RowKit
set_option maxRecDepth 20000
variable {E : World}
theorem cell_up {w : World} {p : Addr} {v : Value} (h : E.cell? p = some v) (hb : Below E.heap.size E w) : w.cell? p = some v := by
 rw [hb.cell ?_]; exact h
 rcases Nat.lt_or_ge p.block E.heap.size with h1 | h1
 ·exact h1
 ·unfold World.cell? at h
  rw [Array.getElem?_eq_none h1] at h; cases h
structure Vars0 (E : World) : Prop where
 tabs : Lib.Utf8Tabs 1 2 E
 len : ∃ m, E.cell? ⟨5, 0, none⟩ = some (.int .i64 m)
 syn : ∃ t p, E.cell? ⟨8, 0, none⟩ = some (.iface t p)
 ran : ∃ t p, E.cell? ⟨9, 0, none⟩ = some (.iface t p)
theorem tabs_up {w : World} {g h : Nat} (ht : Lib.Utf8Tabs g h E) (hb : Below E.heap.size E w) : Lib.Utf8Tabs g h w :=
 ⟨fun c hc => cell_up (ht.1 c hc) hb, fun i hi => ⟨cell_up (ht.2 i hi).1 hb, cell_up (ht.2 i hi).2 hb⟩⟩
theorem valid_spec (s : ByteArray) (hs : s.size ≤ 9223372036854775807) (hV : Vars0 E) : AFun prog E 83 [.str s] (.bool (Lib.validD s.data.toList)) :=
 AFun.ofBelow (vs := [.string s]) (r := .bool (Lib.validD s.data.toList)) func83 rfl (by decide) rfl fun w hw => Tryz.utf8_ValidString s w hs (tabs_up hV.tabs hw)
theorem AFun.weak {P : Program} {f : FuncId} {us : List AV} {x y : AV} (h : AFun P E f us x) (hi : ∀ I v, RepV I x v → RepV I y v) : AFun P E f us y := fun I F w vs h1 h2 =>
 (h I F w vs h1 h2).mono fun _ _ ⟨J, x', O', a, b, c, d⟩ => ⟨J, y, O', a, hi _ _ (d ▸ b), c, rfl⟩
def cutA (s sep : ByteArray) : ByteArray := ⟨(Lib.cut s.data.toList sep.data.toList).1.toArray⟩
def cutB2 (s sep : ByteArray) : ByteArray := ⟨(Lib.cut s.data.toList sep.data.toList).2.1.toArray⟩
def cutT (s sep : ByteArray) : Bool := (Lib.cut s.data.toList sep.data.toList).2.2
theorem drewN_below (w : World) : ∀ n, Below w.heap.size w (w.drewN n)
 | 0 => Below.refl _ _
 | n + 1 => (drewN_below w n).drew
theorem cut_spec (s sep : ByteArray) (hs : s.size < 4294967281) (hV : Vars0 E) : AFun prog E 85 [.str s, .str sep] (.tup [.str (cutA s sep), .str (cutB2 s sep), .bool (cutT s sep)]) := by
 obtain ⟨m, hm⟩ := hV.len
 refine (AFun.ofBelow (E := E) (vs := [.string s, .string sep]) (r := .tuple #[.string (cutA s sep), .string (cutB2 s sep), .bool (cutT s sep)]) func85 Z (by decide) Z fun w hw => ?_).weak ?_
 ·exact (Tryz.strings_Cut s sep m w hs (cell_up hm hw)).mono fun e w' ⟨he, n, hn⟩ => ⟨he, hn ▸ drewN_below w n⟩
 ·rintro I v h
  have h : v = _ := h
  exact ⟨[_, _, _], h, _, _, rfl, rfl, _, _, rfl, rfl, _, _, rfl, rfl, rfl⟩
def splitL (s sep : ByteArray) : List ByteArray := Lib.splitB sep 0 (Lib.countB s sep) s
theorem RepR.ofStr {I : G} {b : Nat} {T : TypeId} {f : Nat × Nat} (l : List ByteArray) (hb : I.k b = some (.cells (l.map Value.string).toArray T f)) : RepR I 1 (some ⟨b, 0, none⟩) 0 (l.map encS) := RepR.intro fun j r hj => by
 rw [List.getElem?_map] at hj
 obtain ⟨s, hs, rfl⟩ := Option.map_eq_some_iff.1 hj
 refine ⟨b, 0, [.string s], Z, Z, ⟨_, _, Z, Z, Z⟩, fun i u hu => ⟨_, T, f, hb, ?_⟩⟩
 have hi : i = 0 := by
  have := (List.getElem?_eq_some_iff.1 hu).1
  simpa using this
 subst hi
 simp only [List.getElem?_cons_zero, Option.some.injEq] at hu
 subst hu
 simp [hs]
theorem split_spec (s sep : ByteArray) (hs : s.size < 4294967281) (h1 : 1 ≤ sep.size) (hV : Vars0 E) : AFun prog E 51 [.str s, .str sep] (.fro 1 ((splitL s sep).map encS)) := fun I F w vs h2 h3 => by
 have hl : (splitL s sep).length = Lib.countB s sep + 1 := Lib.splitB_all sep h1 0 _ s rfl
 obtain ⟨m, hm⟩ := hV.len
 obtain ⟨v, us, rfl, e1, v2, us2, rfl, e2, e3⟩ := h2
 have e1 : v = .string s := e1
 have e2 : v2 = .string sep := e2
 have e3 : us2 = [] := e3
 subst e1 e2 e3
 obtain ⟨ht, L, hL, hS⟩ := h3
 have hL : L = [] := hL
 subst hL
 refine Fn.ofCalls func51 Z (by decide)<|(Tryz.strings_Split s sep m w hs (cell_up hm hS.belowE) h1).mono fun e w' ⟨he, hw⟩ => ?_
 subst hw
 obtain ⟨hle, hS2⟩ := hS.alloc_pers (.cells ((splitL s sep).map Value.string).toArray 9)
 let J : G := ⟨I.k.put w.heap.size (.cells ((splitL s sep).map Value.string).toArray 9), I.h⟩
 refine ⟨_, he, J, .fro 1 ((splitL s sep).map encS), [], ⟨hle, fun _ _ h => h⟩, ⟨some ⟨w.heap.size, 0, none⟩, _, _, Z, by rw [List.length_map, hl], Nat.le_refl _, fun h => by (cases h), RepR.ofStr _ (Ghost.put_same _ _ _)⟩, ⟨ht, [], Z, hS2⟩, Z⟩
end Go.Proofs.YtoicilchhkndmaaGreatDoor
namespace Go.Proofs.YtoicilchhkndmaaGreatDoor
open Go.Proofs.Tryz
open Go.Proofs Go.Lib Go.Shelf Go.RowKit
variable {E : World}
set_option maxRecDepth 100000
def nat09 : NatE := fun f ar => match f, ar with
 | 147, [.i .i32 c] => bif decide (-2147483648 ≤ c) && decide (c ≤ 2147483647) then some (.v (.b (isLetterU c))) else none
 | 83, [.s s] => bif Nat.ble s.data.toList.length 1000 then some (.v (.b (Lib.validD s.data.toList))) else none
 | 85, [.s s, .s t] => bif Nat.ble s.data.toList.length 1000 then some (.v (.tu [.s (cutA s t), .s (cutB2 s t), .b (cutT s t)])) else none
 | 51, [.s s, .s t] => bif Nat.ble s.data.toList.length 1000 && Nat.ble 1 t.data.toList.length then some (.ss (splitL s t)) else none
 | 18, [.i .i64 n, .i .i64 10] => bif decide (-9223372036854775808 ≤ n) && decide (n ≤ 9223372036854775807) then some (.v (.s ⟨(Lib.itoa n).toArray⟩)) else none
 | _, _ => none
theorem size_toList (s : ByteArray) : s.size = s.data.toList.length := by rw [Array.length_toList]; rfl
theorem nat09_ok (hL : Letters E) (hV : Vars0 E) (hP : Pows E) : NatOk prog E nat09 := by
 constructor
 ·intro f ar x h
  unfold nat09 at h
  split at h
  ·rename_i c
   cases hb : (decide (-2147483648 ≤ c) && decide (c ≤ 2147483647)) with
   | false => rw [hb] at h; cases h
   | true =>
    rw [hb] at h; cases h
    simp only [q9, decide_eq_true_eq] at hb
    refine ⟨_, _, letter_spec c hb.1 hb.2 hL, fun φ vs hr I => ?_, fun I v hv φ => hv⟩
    obtain ⟨v, us, rfl, h1, h2⟩ := hr
    exact ⟨v, us, rfl, h1, h2⟩
  ·rename_i s
   cases hb : Nat.ble s.data.toList.length 1000 with
   | false => rw [hb] at h; cases h
   | true =>
    rw [hb] at h; cases h
    have hb := Nat.le_of_ble_eq_true hb
    refine ⟨_, _, valid_spec s (by rw [size_toList]; omega) hV, fun φ vs hr I => ?_, fun I v hv φ => hv⟩
    obtain ⟨v, us, rfl, h1, h2⟩ := hr
    exact ⟨v, us, rfl, h1, h2⟩
  ·rename_i s t
   cases hb : Nat.ble s.data.toList.length 1000 with
   | false => rw [hb] at h; cases h
   | true =>
    rw [hb] at h; cases h
    have hb := Nat.le_of_ble_eq_true hb
    refine ⟨_, _, cut_spec s t (by rw [size_toList]; omega) hV, fun φ vs hr I => ?_, fun I v hv φ => ?_⟩
    ·obtain ⟨v, us, rfl, h1, v2, us2, rfl, h2, h3⟩ := hr
     exact ⟨v, _, rfl, h1, v2, us2, rfl, h2, h3⟩
    ·obtain ⟨vs, e, v1, u1, rfl, h1, v2, u2, rfl, h2, v3, u3, rfl, h3, h4⟩ := hv
     have h4 : u3 = [] := h4
     subst h4
     exact ⟨_, e, v1, _, rfl, h1, v2, _, rfl, h2, v3, _, rfl, h3, rfl⟩
  ·rename_i s t
   cases hb : (Nat.ble s.data.toList.length 1000 && Nat.ble 1 t.data.toList.length) <;> (rw [hb] at h; cases h)
  ·rename_i n
   cases hb : (decide (-9223372036854775808 ≤ n) && decide (n ≤ 9223372036854775807)) with
   | false => rw [hb] at h; cases h
   | true =>
    rw [hb] at h; cases h
    simp only [q9, decide_eq_true_eq] at hb
    refine ⟨_, _, formatInt_spec n hb hP, fun φ vs hr I => ?_, fun I v hv φ => hv⟩
    obtain ⟨v, us, rfl, h1, v2, us2, rfl, h2, h3⟩ := hr
    exact ⟨v, _, rfl, h1, v2, us2, rfl, h2, h3⟩
  ·cases h
 ·intro f ar l h
  unfold nat09 at h
  split at h
  ·rename_i c
   cases hb : (decide (-2147483648 ≤ c) && decide (c ≤ 2147483647)) <;> (rw [hb] at h; cases h)
  ·rename_i s
   cases hb : Nat.ble s.data.toList.length 1000 <;> (rw [hb] at h; cases h)
  ·rename_i s t
   cases hb : Nat.ble s.data.toList.length 1000 <;> (rw [hb] at h; cases h)
  ·rename_i s t
   cases hb : (Nat.ble s.data.toList.length 1000 && Nat.ble 1 t.data.toList.length) with
   | false => rw [hb] at h; cases h
   | true =>
    rw [hb] at h; cases h
    simp only [q9] at hb
    have b1 := Nat.le_of_ble_eq_true hb.1
    have b2 := Nat.le_of_ble_eq_true hb.2
    refine ⟨_, split_spec s t (by rw [size_toList]; omega) (by rw [size_toList]; exact b2) hV, fun φ vs hr I => ?_⟩
    obtain ⟨v, us, rfl, h1, v2, us2, rfl, h2, h3⟩ := hr
    exact ⟨v, _, rfl, h1, v2, us2, rfl, h2, h3⟩
  ·rename_i n
   cases hb : (decide (-9223372036854775808 ≤ n) && decide (n ≤ 9223372036854775807)) <;> (rw [hb] at h; cases h)
  ·cases h
theorem lives9_spec (hL : Letters E) (hV : Vars0 E) (hP : Pows E) : AFun prog E 4 [] (.bool true) :=
 closed_true (by kernel_rfl) (nat09_ok hL hV hP) (fuel := 200) (d := 40) (by decide +kernel)
end Go.Proofs.YtoicilchhkndmaaGreatDoor
