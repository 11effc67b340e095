/- The table of powers of ten, out of what a call is handed. No conditions. -/
import Derived.Test.YtpojdepccecpgaaGreatDoorHq
import Derived.Test.YtpojdepccecpgaaGreatDoorHm
import Derived.Test.YtpojdepccecpgaaGreatDoorHh
import Derived.Test.YtpojdepccecpgaaGreatDoorHd
import Derived.Test.YtpojdepccecpgaaGreatDoorHj
import Derived.Lib.LaidRTab
import Derived.Test.YtpojdepccecpgaaGreatDoorRows
import Derived.Test.YtpojdepccecpgaaGreatDoorChecked
import Derived.ProofKit
import Derived.JoinedOf
import Derived.Test.YtpojdepccecpgaaGreatDoorHl
import Derived.Test.YtpojdepccecpgaaGreatDoorHk
import Derived.Test.YtpojdepccecpgaaGreatDoorHe
import Derived.Test.YtpojdepccecpgaaGreatDoorHp
import Derived.Test.YtpojdepccecpgaaGreatDoorHo
import Derived.Test.YtpojdepccecpgaaGreatDoorHf
set_option linter.unusedVariables false
set_option linter.unusedSimpArgs false
set_option linter.unusedSectionVars false
namespace Go.Proofs.YtpojdepccecpgaaGreatDoor
open Go.Proofs.Tryz
open Go.Proofs Go.Lib
theorem words_ok : (List.range 513).all (fun i => nameB (wordN 119 i) && nameB (wordN 107 i) && (valN (wordN 119 i) == i) && (valN (wordN 107 i) == i)) = true := by decide +kernel
theorem word_ok {c : UInt8} (hc : c = 119 ∨ c = 107) {i : Nat} (h : i < 513) : nameB (wordN c i) = true ∧ valN (wordN c i) = i := by
 have := List.all_eq_true.1 words_ok i (List.mem_range.2 h)
 simp only [qo, beq_iff_eq] at this
 rcases hc with rfl | rfl
 ·exact ⟨this.1.1.1, this.1.2⟩
 ·exact ⟨this.1.1.2, this.2⟩
theorem word_inj {c : UInt8} (hc : c = 119 ∨ c = 107) {i j : Nat} (h : i < 513) (k : j < 513) (e : wordN c i = wordN c j) : i = j := by
 rw [← (word_ok hc h).2, ← (word_ok hc k).2, e]
def rotG {α : Type} (d : α) (l : List α) (r : Nat) : List α := (List.range l.length).map fun k => (l[(k + r) % l.length]?).getD d
theorem rot_eq {α : Type} (d : α) (l : List α) (r : Nat) : rotG d l r = l.drop (r % l.length) ++ l.take (r % l.length) := by
 by_cases h0 : l.length = 0
 ·have : l = [] := List.eq_nil_of_length_eq_zero h0
  subst this; unfold rotG; simp
 have hs : r % l.length < l.length := Nat.mod_lt _ (by omega)
 generalize hse : r % l.length = s at hs
 have hm : ∀ k, (k + r) % l.length = (k + s) % l.length := fun k => by rw [Nat.add_mod, hse, Nat.add_mod k s, Nat.mod_eq_of_lt hs]
 apply List.ext_getElem
 ·unfold rotG; simp; omega
 ·intro k h1 h2
  have hk : k < l.length := by unfold rotG at h1; simpa using h1
  have e0 : (rotG d l r)[k] = (l[(k + s) % l.length]?).getD d := by
   have : (rotG d l r)[k]? = some ((l[(k + r) % l.length]?).getD d) := by unfold rotG; rw [qi, List.getElem?_range hk]; rfl
   rw [qa h1] at this
   rw [Option.some.inj this, hm]
  rw [e0]
  by_cases hc : k < l.length - s
  ·rw [List.getElem_append_left (by rw [List.length_drop]; exact hc), List.getElem_drop, Nat.mod_eq_of_lt (by omega), qa (by omega)]
   show l[k + s] = _
   congr 1; omega
  ·rw [List.getElem_append_right (by rw [List.length_drop]; omega), List.getElem_take]
   have e : (k + s) % l.length = k - (l.length - s) := by
    rw [show k + s = (k - (l.length - s)) + l.length by omega, Nat.add_mod_right, Nat.mod_eq_of_lt (by omega)]
   rw [e, qa (by omega)]
   show l[k - (l.length - s)] = _
   congr 1; rw [List.length_drop]
theorem rot_perm {α : Type} (d : α) (l : List α) (r : Nat) : (rotG d l r).Perm l := by
 rw [rot_eq]
 refine (List.perm_append_comm).trans ?_
 rw [List.take_append_drop]
theorem rotI_eq (l : List Int) (r : Nat) : rotI l r = rotG 0 l r := rfl
theorem rot_zip {l m : List Int} (r : Nat) (h : l.length = m.length) : (rotI l r).zip (rotI m r) = rotG (0, 0) (l.zip m) r := by
 rw [rotI_eq, rotI_eq, rot_eq, rot_eq, rot_eq, List.length_zip, h, Nat.min_self]
 rw [List.zip_append (by rw [List.length_drop, List.length_drop, h])]
 congr 1
 ·rw [List.zip_eq_zipWith, List.zip_eq_zipWith, List.drop_zipWith]
 ·rw [List.zip_eq_zipWith, List.zip_eq_zipWith, List.take_zipWith]
section
variable {f : PFunc} {v b : List Int} {r : Nat} (hS : ShapedP f) (hT : typedB f = true) (hv : ShufP f.vars.length f.params.length v) (hb : ShufP f.blocks.length 1 b)
theorem turn_vlen : (turnF f v b r).vars.length = f.vars.length := by
 show (putAll _ _ _ _).length = _
 rw [putAll_len, List.length_replicate]
theorem turn_blen : (turnF f v b r).blocks.length = f.blocks.length := by
 show (putAll _ _ _ _).length = _
 rw [putAll_len, List.length_replicate]
include hv in
theorem turn_var {x : Int} (h0 : 0 ≤ x) (h1 : x < f.vars.length) : (turnF f v b r).vars[(atL v x).toNat]? = some ⟨wordN 119 (atL v x).toNat, kindV f x⟩ := by
 have := putAll_get (v := v) (g := gV f v) (acc := List.replicate f.vars.length (⟨⟨#[]⟩, 0⟩ : PVar)) (n := f.vars.length) (fun i hi => by rw [List.length_replicate]; exact (hv.at_ (x := i) (by omega) (by omega)).2) (fun i j hi hj e => hv.inj hi hj e) f.vars.length (Nat.le_refl _) x.toNat (by omega)
 rw [qp h0] at this
 show (putAll v (gV f v) _ _)[_]? = _
 rw [this]
 unfold gV
 rw [qp h0]
include hb in
theorem turn_blk {x : Int} (h0 : 0 ≤ x) (h1 : x < f.blocks.length) : (turnF f v b r).blocks[(atL b x).toNat]? = some (blkW v b r x.toNat (blkX f x)) := by
 have := putAll_get (v := b) (g := gB f v b r) (acc := List.replicate f.blocks.length noBlk) (n := f.blocks.length) (fun i hi => by rw [List.length_replicate]; exact (hb.at_ (x := i) (by omega) (by omega)).2) (fun i j hi hj e => hb.inj hi hj e) f.blocks.length (Nat.le_refl _) x.toNat (by omega)
 rw [qp h0] at this
 show (putAll b (gB f v b r) _ _)[_]? = _
 rw [this]
 unfold gB
 rw [qp h0]
include hb in
theorem turn_blkX {x : Int} (h0 : 0 ≤ x) (h1 : x < f.blocks.length) : blkX (turnF f v b r) (atL b x) = blkW v b r x.toNat (blkX f x) := by
 unfold blkX
 have := turn_blk (v := v) (r := r) hb h0 h1
 unfold blkX at this
 rw [this]; rfl
theorem ShufP.injI {n k : Nat} {l : List Int} (h : ShufP n k l) {x y : Int} (hx : 0 ≤ x ∧ x < n) (hy : 0 ≤ y ∧ y < n) (e : atL l x = atL l y) : x = y := by
 have := h.inj (i := x.toNat) (j := y.toNat) (by omega) (by omega) (by rw [qp hx.1, qp hy.1]; exact e)
 omega
theorem ShufP.ontoI {n k : Nat} {l : List Int} (h : ShufP n k l) {y : Int} (hy : 0 ≤ y ∧ y < n) : ∃ x : Int, (0 ≤ x ∧ x < n) ∧ atL l x = y := by
 obtain ⟨i, hi, e⟩ := h.onto (y := y.toNat) (by omega)
 have := (h.at_ (x := i) (by omega) (by omega)).2
 exact ⟨i, ⟨by omega, by omega⟩, by omega⟩
include hT hb in
theorem turn_ends : EndsOk (turnF f v b r) := by
 have hE := typedE hT
 refine ⟨by rw [turn_blen]; exact hE.pos, fun c hc e he => ?_⟩
 obtain ⟨y, hy, ey⟩ := List.getElem_of_mem hc
 rw [turn_blen] at hy
 obtain ⟨x, hx, exy⟩ := hb.ontoI (y := y) ⟨by omega, by omega⟩
 have h1 := turn_blk (v := v) (r := r) hb hx.1 hx.2
 rw [exy, Int.toNat_natCast, qa (by rw [turn_blen]; exact hy), ey] at h1
 rw [Option.some.inj h1] at he
 have hrg := hE.rng (blkX f x) (blkX_mem hx.1 hx.2)
 have he : e ∈ endsL (trmM (atL v) (atL b) (blkX f x).term) := he
 rw [endsL_map fun a ha c hc q => hb.injI (hrg a ha) (hrg c hc) q] at he
 obtain ⟨a, ha, rfl⟩ := List.mem_map.1 he
 have hr := hrg a ha
 rw [turn_blen]
 exact (hb.at_ hr.1 hr.2).2
include hS hT hv hb in
theorem turn_like : Like (fun x => 0 ≤ x ∧ x < f.blocks.length) (fun x => 0 ≤ x ∧ x < f.vars.length) (atL b) (atL v) f (turnF f v b r) := by
 have hE := typedE hT
 have hpos := hE.pos
 have hhv : ∀ {x}, hasV f x = true → 0 ≤ x ∧ x < f.vars.length := fun h => by
  unfold hasV at h
  simp only [qo, qq] at h
  exact h
 have hhb : ∀ {x}, hasB f x = true → 0 ≤ x ∧ x < f.blocks.length := fun h => by
  unfold hasB at h
  simp only [qo, qq] at h
  exact h
 refine { okf := hE, okg := turn_ends hT hb, r0 := ⟨Int.le_refl _, by omega⟩, b0 := ?_, rng := fun x hx => ⟨hx, ?_⟩, cl := fun x hx c hc => ?_, onto := fun y h0 h1 => ?_, inj := fun x y hx hy => hb.injI hx hy, blk := fun x hx => ?_, par := Z, parv := fun x hx => ?_, vty := fun x hx => ?_, vinj := fun x y hx hy => hv.injI hx hy }
 ·unfold atL
  have := hb.2 0 (by omega)
  show (b[0]?).getD 0 = 0
  rw [this]; rfl
 ·rw [turn_blen]; exact (hb.at_ hx.1 hx.2).2
 ·rw [ends_at hx.1 hx.2] at hc
  exact hE.rng _ (blkX_mem hx.1 hx.2) c hc
 ·rw [turn_blen] at h1
  exact hb.ontoI ⟨h0, h1⟩
 ·rw [turn_blkX hb hx.1 hx.2]
  have hm := blkX_mem hx.1 hx.2
  obtain ⟨hP1, hP2, hP3⟩ := hS.2.2.2.2.2 _ hm
  refine ⟨qh .., fun i p q hp hq => ?_, Z, fun z hz u hu => hhv (inst_vars hS hm hz u hu), Z, fun u hu => ?_⟩
  ·have hq : ((blkX f x).phis.map (phW v b r))[i]? = some q := hq
   rw [qi, hp] at hq
   have hq := (Option.some.inj hq).symm
   subst hq
   obtain ⟨s1, s2, s3, s4, s5⟩ := hP1 p (qj hp)
   refine ⟨Z, hhv s1, ?_, prs p, fun z => ⟨fun h => ⟨h, hhb (List.all_eq_true.1 s5 _ (List.of_mem_zip h).1)⟩, fun h => h.1⟩, List.Sublist.refl _, fun z hz => hhv (List.all_eq_true.1 s4 _ (List.of_mem_zip hz).2), ?_⟩
   ·show ((rotI p.from_ r).map _).length = ((rotI p.args r).map _).length
    unfold rotI
    simp [s2]
   ·show (((rotI p.from_ r).map (atL b)).zip ((rotI p.args r).map (atL v))).Perm _
    rw [List.zip_map, rot_zip r s2.symm]
    exact (rot_perm (0, 0) (prs p) r).map _
  ·unfold termVars at hu
   split at hu
   ·cases hu
   ·rename_i h0
    rw [List.mem_singleton.1 hu]
    unfold termOK at hP3
    rw [if_neg h0] at hP3
    split at hP3
    ·simp only [qo] at hP3; exact hhv hP3.1.1
    ·split at hP3
     ·simp only [qo] at hP3; exact hhv hP3.1
     ·cases hP3
 ·have h := hhv (par_vars hS x hx)
  refine ⟨h, ?_⟩
  obtain ⟨i, hi, e⟩ := List.getElem_of_mem hx
  have he := hS.2.1 i hi
  rw [e] at he
  have := hv.2 i hi
  unfold atL
  rw [he, Int.toNat_natCast, this]; rfl
 ·refine ⟨hx.1, (hv.at_ hx.1 hx.2).2.1, ?_⟩
  have := turn_var (b := b) (r := r) hv hx.1 hx.2
  unfold kindV
  rw [this]; rfl
end
end Go.Proofs.YtpojdepccecpgaaGreatDoor
namespace Go.Proofs.YtpojdepccecpgaaGreatDoor
open Go.Proofs.Tryz
open Go.Proofs Go.Lib
section
variable {f : PFunc} {v b : List Int} {r : Nat} (hS : ShapedP f) (hT : typedB f = true) (hv : ShufP f.vars.length f.params.length v) (hb : ShufP f.blocks.length 1 b)
theorem numsL_get {n : Nat} {l : List Int} {k : Nat} (h : ShufP n k l) : (l.map Int.toNat).Perm (List.range n) := by
 have := h.1.map Int.toNat
 unfold numsL at this
 rw [List.map_map] at this
 rwa [show (List.range n).map (Int.toNat ∘ fun j : Nat => (j : Int)) = List.range n from by
  rw [show (Int.toNat ∘ fun j : Nat => (j : Int)) = id from rfl, List.map_id]] at this
include hb in
theorem turn_sum (g : PBlock → Nat) (hg : ∀ i, g (blkW v b r i (blkX f i)) = g (blkX f i)) : ((turnF f v b r).blocks.map g).sum = (f.blocks.map g).sum := by
 have hl : b.length = f.blocks.length := by rw [hb.1.length_eq, numsL_len]
 have e1 : (turnF f v b r).blocks.map g = (List.range f.blocks.length).map fun y => (((turnF f v b r).blocks[y]?).map g).getD 0 := by
  apply List.ext_getElem
  ·simp [turn_blen]
  ·intro i h1 h2
   rw [List.getElem_map, List.getElem_map, List.getElem_range, qa (by simpa using h1)]; rfl
 have e2 : f.blocks.map g = (b.map Int.toNat).map fun y => (((turnF f v b r).blocks[y]?).map g).getD 0 := by
  apply List.ext_getElem
  ·simp [hl]
  ·intro i h1 h2
   have hi : i < f.blocks.length := by simpa using h1
   have h3 := turn_blk (v := v) (r := r) hb (x := i) (by omega) (by omega)
   have h4 := (hb.at_ (x := i) (by omega) (by omega)).1
   rw [Int.toNat_natCast, qa (by omega)] at h4
   rw [List.getElem_map, List.getElem_map, List.getElem_map, Option.some.inj h4, h3]
   show _ = g (blkW v b r ((i : Int).toNat) (blkX f i))
   rw [Int.toNat_natCast, hg, blkX_get (qa hi)]
 rw [e1, e2]
 exact ((numsL_get hb).symm.map _).sum_nat
include hb in
theorem turn_mem {c : PBlock} (h : c ∈ (turnF f v b r).blocks) : ∃ x : Int, (0 ≤ x ∧ x < f.blocks.length) ∧ c = blkW v b r x.toNat (blkX f x) := by
 obtain ⟨y, hy, ey⟩ := List.getElem_of_mem h
 rw [turn_blen] at hy
 obtain ⟨x, hx, exy⟩ := hb.ontoI (y := y) ⟨by omega, by omega⟩
 have h1 := turn_blk (v := v) (r := r) hb hx.1 hx.2
 rw [exy, Int.toNat_natCast, qa (by rw [turn_blen]; exact hy), ey] at h1
 exact ⟨x, hx, Option.some.inj h1⟩
include hS hT hv hb in
theorem turn_typed : typedB (turnF f v b r) = true := by
 have h := turn_like (r := r) hS hT hv hb
 have h1 := hS.1
 unfold bad1 at h1
 simp only [Bool.or_eq_false_iff, decide_eq_false_iff_not] at h1
 refine h.typed hS (fun x hx => ?_) (fun x hx p hp => ?_) hT ?_ hS.2.1 (fun i hi => ?_) (fun i hi => ?_) ?_
 ·have := (hv.at_ hx.1 hx.2).2
  unfold hasV
  rw [turn_vlen]
  simp [this.1, this.2]
 ·obtain ⟨s1, s2, s3, s4, s5⟩ := phi_shape hS hx.1 hx.2 hp
  have hl : 0 < (prs p).length := by unfold prs; rw [List.length_zip]; omega
  refine ⟨(prs p)[0], qe hl, ?_⟩
  have h7 := List.all_eq_true.1 s5 _ (List.of_mem_zip (qe hl)).1
  unfold hasB at h7
  simp only [qo, qq] at h7
  exact h7
 ·unfold bad1
  rw [turn_vlen, turn_blen]
  simp only [Bool.or_eq_false_iff, decide_eq_false_iff_not]
  exact h1
 ·have hi' : i < f.vars.length := by rw [← turn_vlen (f := f) (v := v) (b := b) (r := r)]; exact hi
  have hvr : ∀ j, j < f.vars.length → ∃ x : Int, (0 ≤ x ∧ x < f.vars.length) ∧ (turnF f v b r).vars[j]? = some ⟨wordN 119 j, kindV f x⟩ := fun j hj => by
   obtain ⟨x, hx, e⟩ := hv.ontoI (y := j) ⟨by omega, by omega⟩
   have h3 := turn_var (b := b) (r := r) hv hx.1 hx.2
   rw [e, Int.toNat_natCast] at h3
   exact ⟨x, hx, h3⟩
  obtain ⟨x, hx, h3⟩ := hvr i hi'
  rw [qa hi] at h3
  rw [Option.some.inj h3]
  have hk : 0 ≤ kindV f x ∧ kindV f x ≤ 2 := by
   unfold kindV
   have hxl : x.toNat < f.vars.length := by omega
   rw [qa hxl]
   exact ⟨(hS.2.2.1 _ hxl).2.1, (hS.2.2.1 _ hxl).2.2.1⟩
  refine ⟨(word_ok (.inl Z) (by omega)).1, hk.1, hk.2, fun s hs => ?_⟩
  obtain ⟨c, hc, rfl⟩ := List.mem_map.1 hs
  obtain ⟨j, hj⟩ := List.getElem?_of_mem hc
  rw [List.getElem?_take] at hj
  split at hj
  ·rename_i hji
   obtain ⟨y, hy, h4⟩ := hvr j (by omega)
   rw [h4] at hj
   rw [← Option.some.inj hj]
   exact fun e => by
    have := word_inj (.inl rfl) (by omega) (by omega) e
    omega
  ·cases hj
 ·have hi' : i < f.blocks.length := by rw [← turn_blen (f := f) (v := v) (b := b) (r := r)]; exact hi
  have hbr : ∀ j, j < f.blocks.length → ∃ c : PBlock, (turnF f v b r).blocks[j]? = some c ∧ c.name = wordN 107 j := fun j hj => by
   obtain ⟨x, hx, e⟩ := hb.ontoI (y := j) ⟨by omega, by omega⟩
   have h3 := turn_blk (v := v) (r := r) hb hx.1 hx.2
   rw [e, Int.toNat_natCast] at h3
   refine ⟨_, h3, ?_⟩
   show wordN 107 (atL b (x.toNat : Int)).toNat = _
   rw [qp hx.1, e, Int.toNat_natCast]
  obtain ⟨c, h3, hn⟩ := hbr i hi'
  rw [qa hi] at h3
  unfold NamP
  rw [Option.some.inj h3, hn]
  refine ⟨(word_ok (.inr Z) (by omega)).1, fun s hs => ?_⟩
  obtain ⟨c2, hc, rfl⟩ := List.mem_map.1 hs
  obtain ⟨j, hj⟩ := List.getElem?_of_mem hc
  rw [List.getElem?_take] at hj
  split at hj
  ·rename_i hji
   obtain ⟨d, h4, hd⟩ := hbr j (by omega)
   rw [h4] at hj
   rw [← Option.some.inj hj, hd]
   exact fun e => by
    have := word_inj (.inr rfl) (by omega) (by omega) e
    omega
  ·cases hj
 ·refine Nat.le_trans (Nat.le_of_eq ?_) hS.2.2.2.2.1
  unfold sumTo
  exact turn_sum hb _ fun i => by
   show (List.map _ _).length + (List.map _ _).length = _
   rw [qh, qh]
include hv hb in
theorem turn_small (hf : small f) : small (turnF f v b r) := by
 obtain ⟨h1, h2, h3, h4, h5⟩ := hf
 refine ⟨by rw [turn_vlen]; exact h1, h2, by rw [turn_blen]; exact h3, fun x hx => ?_, fun c hc => ?_⟩
 ·obtain ⟨j, hj, rfl⟩ := List.getElem_of_mem hx
  rw [turn_vlen] at hj
  obtain ⟨y, hy, e⟩ := hv.ontoI (y := j) ⟨by omega, by omega⟩
  have h3 := turn_var (b := b) (r := r) hv hy.1 hy.2
  rw [e, Int.toNat_natCast, qa (by rw [turn_vlen]; exact hj)] at h3
  rw [Option.some.inj h3]
  show (4 : Nat) ≤ 1000
  decide
 ·obtain ⟨x, hx, rfl⟩ := turn_mem hb hc
  obtain ⟨g1, g2, g3, g4, g5⟩ := h5 _ (blkX_mem hx.1 hx.2)
  refine ⟨by show (4 : Nat) ≤ 1000; decide, by show (List.map _ _).length ≤ _; rw [qh]; exact g2, by show (List.map _ _).length ≤ _; rw [qh]; exact g3, fun q hq => ?_, fun z hz => ?_⟩
  ·obtain ⟨p, hp, rfl⟩ := List.mem_map.1 hq
   have := g4 p hp
   show (List.map _ (rotI p.args r)).length ≤ _ ∧ (List.map _ (rotI p.from_ r)).length ≤ _
   unfold rotI
   simpa using this
  ·obtain ⟨y, hy, rfl⟩ := List.mem_map.1 hz
   show (List.map _ _).length ≤ _
   rw [qh]; exact g5 y hy
include hS hT hv hb in
theorem turn_joined : JoinP (turnF f v b r) ↔ JoinP f := by
 have h := turn_like (r := r) hS hT hv hb
 have hE := typedE hT
 have hG := hE.grph
 have hE2 := h.okg
 constructor
 ·intro hJ i hi p hp
  have hx : (0 : Int) ≤ (i : Int) ∧ (i : Int) < f.blocks.length := ⟨by omega, by omega⟩
  have hbx := turn_blk (v := v) (r := r) hb hx.1 hx.2
  have hbr := (hb.at_ hx.1 hx.2).2
  have hgi : blkX f i = f.blocks[i] := blkX_get (qa hi)
  have hpm : p ∈ (blkX f i).phis := by rw [hgi]; exact hp
  obtain ⟨s1, s2, s3, s4, s5⟩ := phi_shape hS hx.1 hx.2 hpm
  have hfr : ∀ c ∈ p.from_, 0 ≤ c ∧ c < f.blocks.length := fun c hc => by
   have h7 := List.all_eq_true.1 s5 c hc
   unfold hasB at h7
   simp only [qo, qq] at h7
   exact h7
  obtain ⟨hyl, hye⟩ := List.getElem?_eq_some_iff.1 hbx
  have hq := hJ (atL b i).toNat hyl (phW v b r p) (by rw [hye]; exact List.mem_map_of_mem hpm)
  rw [qp hbr.1, turn_blen] at hq
  have hq : ((rotI p.from_ r).map (atL b)).Perm (predsT (EndsOf (turnF f v b r)) f.blocks.length (atL b i)) := hq
  have hrp : (p.from_.map (atL b)).Perm (predsT (EndsOf (turnF f v b r)) f.blocks.length (atL b i)) := ((rot_perm 0 p.from_ r).map (atL b)).symm.trans hq
  have hn : (p.from_.map (atL b)).Nodup := hrp.nodup_iff.2 (predsT_nodup (fun b => EndsOf_nodup _ b) _ _).1
  have hn2 : p.from_.Nodup := by
   rw [List.nodup_iff_pairwise_ne] at hn ⊢
   rw [List.pairwise_map] at hn
   exact hn.imp fun h e => h (by rw [e])
  refine (List.perm_ext_iff_of_nodup hn2 (predsT_nodup (fun b => EndsOf_nodup _ b) _ _).1).2 fun c=>?_
  have hmem : ∀ c : Int, 0 ≤ c → c < f.blocks.length → (atL b c ∈ predsT (EndsOf (turnF f v b r)) f.blocks.length (atL b i) ↔ c ∈ predsT (EndsOf f) f.blocks.length i) := fun c h0 h1 => by
   have hg2 := hE2.grph
   rw [turn_blen] at hg2
   rw [mem_predsT hg2.toEOk hg2.out, mem_predsT hG.toEOk hG.out, h.leads (x := c) ⟨h0, h1⟩]
   exact hits_iff (R := fun x => 0 ≤ x ∧ x < f.blocks.length) (fun x y hx hy => hb.injI hx hy) (fun e he => h.cl c ⟨h0, h1⟩ e he) hx
  constructor
  ·intro hc
   have h0 := hfr c hc
   exact (hmem c h0.1 h0.2).1 (hrp.mem_iff.1 (List.mem_map_of_mem hc))
  ·intro hc
   have h2 := (mem_predsT hG.toEOk hG.out).1 hc
   have h0 : 0 ≤ c ∧ c < f.blocks.length := Classical.byContradiction fun hn => by rw [hG.out c hn] at h2; cases h2
   have h3 := hrp.mem_iff.2 ((hmem c h0.1 h0.2).2 hc)
   obtain ⟨d, hd, e⟩ := List.mem_map.1 h3
   rw [← hb.injI (hfr d hd) h0 e]; exact hd
 ·intro hJ
  exact h.joined (fun x hx p hp => phi_dist hS hJ hx.1 hx.2 hp) (fun x hx p hp => (phi_shape hS hx.1 hx.2 hp).2.1.symm) hJ
include hS hT hv hb in
theorem turn_can (hJ : JoinP f) : canD (turnF f v b r) = canD f :=
 (turn_like hS hT hv hb).can fun x hx p hp => phi_dist hS hJ hx.1 hx.2 hp
end
end Go.Proofs.YtpojdepccecpgaaGreatDoor
namespace Go.Proofs.YtpojdepccecpgaaGreatDoor
open Go.Proofs.Tryz
open Go.Proofs Go.Lib Go.Shelf Go.RowKit
variable {E : World}
set_option maxRecDepth 20000
theorem equal_bad (f g : PFunc) (hf : small f) (hg : small g) (hL : Letters E) (bf : (typedB f && joinedB f) = false) (bg : (typedB g && joinedB g) = false) : AFun prog E 22 [.agg (encF f), .agg (encF g)] (.bool false) := by
 refine zt func22 Z (by decide) Z<|zSr<|yc (cs := _) Z Z Z<|yc (cs := _) Z Z Z<|zVzAb Z<|z6<|zSr<|zVGvloadWF jp j9 Z Z<|zg (canon_bad f hf hL bf) Z<|z8 (zMu Z)<|z8 (yw (v := .agg _) Z Z)<|z8 (zXi Z Z)<|zo (cs := [.raw (.slice none 0 0), .raw (.slice none 0 0), .raw (.slice none 0 0)]) jn Z Z<|fun i5 => zh j9 Z Z Z Z Z Z .head Z<|zd (yf (t := 5) Z .head)<|zVzAi Z<|z6<|zSr<|zVGvloadWF jp j9 Z Z<|zg (canon_bad g hg hL bg) Z<|z8 (zMu Z)<|z8 (yw (v := .agg _) Z Z)<|z8 (zXi Z Z)<|zo (cs := [.raw (.slice none 0 0), .raw (.slice none 0 0), .raw (.slice none 0 0)]) jn Z Z<|fun i7 => zh j9 Z Z Z Z Z Z .head Z<|zd (yf (t := 7) Z .head)<|zVzAi Z<|z6<|zSr<|zVzMi Z<|zVGveqlI Z Z<|zVzMb Z<|z7 Z Z Z<|z7 Z Z Z<|zVzPf Z Z Z<|zVzMb Z<|z7 Z Z Z<|z7 Z Z Z<|z7 Z Z Z ?_
 refine zVzPf Z Z Z<|zVzAb Z<|z6<|zk<|zm (x := .bool _) Z ?_
 rfl
theorem canonTurned_law (f : PFunc) (hw : wFunc f) (hL : Letters E) (hPw : Pows E) (seed : Int) (hs : 0 ≤ seed ∧ seed ≤ 18446744073709551615) : AFun prog E 5 [.agg (encF f), .int .u64 seed] (.bool true) := by
 refine zt func5 Z (by decide) Z<|zSr<|yc (cs := _) Z Z Z<|zVzAb Z<|z6<|ze<|zSr<|zg (lives18_spec hL hPw) Z<|zVGvnot Z<|zVzMb Z ?_
 by_cases c1 : (fewB f && typedB f) = true
 ·have c2 : fewB f = true ∧ typedB f = true := by simpa using c1
  have hf := ((fewB_iff f).1 c2.1).small
  have ht := c2.2
  have hS := typedS ht
  refine za Z Z Z<|zVGvloadWF jp j9 Z Z<|za Z Z Z<|zg (lawTyped_spec f hw hL) Z<|za Z Z Z<|zVGvnot Z<|zVzPf Z Z Z<|z6<|yl Z (by rw [c1]; rfl)<|zj<|zSr<|zVGvloadWF jp j9 Z Z<|zVzMi Z<|yv Z (yb (.rest _)) (turn_spec f hf hS seed hs) ?_
  rintro r20 O20 ⟨⟨v, b⟩, rfl, rfl, hv, hb⟩
  have tt := turn_typed (r := (seed % 7).toNat) hS ht hv hb
  have ts := turn_small (r := (seed % 7).toNat) hv hb hf
  by_cases hj : joinedB f = true
  ·have jf := (joinedB_iff f).1 hj
   have jt := (turn_joined (r := (seed % 7).toNat) hS ht hv hb).2 jf
   have hc := turn_can (r := (seed % 7).toNat) hS ht hv hb jf
   have hg := canon_good (E := E) (turnF f v b (seed % 7).toNat) ts hL hPw tt jt
   have he := equal_good (E := E) f (turnF f v b (seed % 7).toNat) hf ts hL hPw ht jf tt jt
   rw [hc] at hg
   rw [hc, qm rfl] at he
   refine zo (cs := [.raw (.slice none 0 0), .raw (.slice none 0 0), .raw (.slice none 0 0)]) jn Z Z<|fun i5 => zh j9 Z Z Z Z Z Z .head Z<|zd (yf (t := 5) Z .head)<|z6<|zSr<|zVGvloadWF jp j9 Z Z<|zg (canon_good f hf hL hPw ht jf) Z<|z8 (zMu Z)<|z8 (yw (v := .agg _) Z Z)<|z8 (zXi Z Z)<|zo (cs := [.raw (.slice none 0 0), .raw (.slice none 0 0), .raw (.slice none 0 0)]) jn Z Z<|fun i6 => zh j9 Z Z Z Z Z Z .head Z<|zd (yf (t := 6) Z .head)<|zVzAi Z<|z6<|zSr<|zVGvloadWF jp j9 Z Z<|zg (hg) Z<|z8 (zMu Z)<|z8 (yw (v := .agg _) Z Z)<|z8 (zXi Z Z)<|zo (cs := [.raw (.slice none 0 0), .raw (.slice none 0 0), .raw (.slice none 0 0)]) jn Z Z<|fun i8 => zh j9 Z Z Z Z Z Z .head Z<|zd (yf (t := 8) Z .head)<|zVzAi Z<|z6<|zSr<|zVzMi Z<|zVzMi Z<|zVGveqlI Z Z<|zVzMb Z<|za Z Z Z<|zVGvloadWF jp j9 Z Z<|za Z Z Z<|zVGvloadWF jp j9 Z Z<|za Z Z Z<|zg (refSame_spec (canD f) (canD f) (can_small ht jf hf).ok) Z<|zVzPt Z Z Z ?_
   refine zVzMb Z<|za Z Z (by simp)<|zVGvloadWF jp j9 Z Z<|za Z Z (by simp)<|zVGvloadWF jp j9 Z Z<|za Z Z (by simp)<|zg (he) Z<|za Z Z (by simp)<|zVzMi Z<|za Z Z (by simp)<|zVGveqlI Z Z<|za Z Z (by simp)<|z8 (Gv.eqlB Zw Z Z)<|z8 (zPt Z (by simp) Z)<|zVzAb Z<|z6<|zk<|zm (x := .bool _) Z ?_
   exact jb (by simp)
  ·have hj2 : joinedB f = false := by simpa using hj
   have hj3 : joinedB (turnF f v b (seed % 7).toNat) = false := by
    cases h : joinedB (turnF f v b (seed % 7).toNat) with
    | false => rfl
    | true => exact absurd ((joinedB_iff f).2 ((turn_joined (r := (seed % 7).toNat) hS ht hv hb).1 ((joinedB_iff _).1 h))) hj
   have b1 : (typedB f && joinedB f) = false := by rw [hj2, Bool.and_false]
   have b2 : (typedB (turnF f v b (seed % 7).toNat) && joinedB (turnF f v b (seed % 7).toNat)) = false := by rw [hj3, Bool.and_false]
   refine zo (cs := [.raw (.slice none 0 0), .raw (.slice none 0 0), .raw (.slice none 0 0)]) jn Z Z<|fun i5 => zh j9 Z Z Z Z Z Z .head Z<|zd (yf (t := 5) Z .head)<|z6<|zSr<|zVGvloadWF jp j9 Z Z<|zg (canon_bad f hf hL b1) Z<|z8 (zMu Z)<|z8 (yw (v := .agg _) Z Z)<|zd (GStep.slot (t := 24) (y := .agg (encF ⟨[], [], []⟩)) Z (Imp.agg (.cons (.nil 2) (.cons (.nil 1) (.cons (.nil 7) .nil)))))<|z8 (zXi Z Z)<|zo (cs := [.raw (.slice none 0 0), .raw (.slice none 0 0), .raw (.slice none 0 0)]) jn Z Z<|fun i6 => zh j9 Z Z Z Z Z Z .head Z<|zd (yf (t := 6) Z .head)<|zVzAi Z<|z6<|zSr<|zVGvloadWF jp j9 Z Z<|zg (canon_bad (turnF f v b (seed % 7).toNat) ts hL b2) Z<|z8 (zMu Z)<|z8 (yw (v := .agg _) Z Z)<|zd (GStep.slot (t := 29) (y := .agg (encF ⟨[], [], []⟩)) Z (Imp.agg (.cons (.nil 2) (.cons (.nil 1) (.cons (.nil 7) .nil)))))<|z8 (zXi Z Z)<|zo (cs := [.raw (.slice none 0 0), .raw (.slice none 0 0), .raw (.slice none 0 0)]) jn Z Z<|fun i8 => zh j9 Z Z Z Z Z Z .head Z<|zd (yf (t := 8) Z .head)<|zVzAi Z<|z6<|zSr<|zVzMi Z<|zVzMi Z<|zVGveqlI Z Z<|zVzMb Z<|za Z Z Z<|zVGvloadWF jp j9 Z Z<|za Z Z Z<|zVGvloadWF jp j9 Z Z<|za Z Z Z ?_
   refine zg (refSame_spec ⟨[], [], []⟩ ⟨[], [], []⟩ ⟨by unfold okL; decide, by unfold okL; decide, by unfold okL; decide, fun b hb => by cases hb⟩) Z<|zVzPt Z Z Z<|zVzMb Z<|za Z Z (by simp)<|zVGvloadWF jp j9 Z Z<|za Z Z (by simp)<|zVGvloadWF jp j9 Z Z<|za Z Z (by simp)<|zg (equal_bad f (turnF f v b (seed % 7).toNat) hf ts hL b1 b2) Z<|za Z Z (by simp)<|zVzMi Z<|za Z Z (by simp)<|zVGveqlI Z Z<|za Z Z (by simp)<|z8 (Gv.eqlB Zw Z Z)<|z8 (zPt Z (by simp) Z)<|zVzAb Z<|z6<|zk<|zm (x := .bool _) Z ?_
   rfl
 ·refine za Z Z Z<|zVGvloadWF jp j9 Z Z<|za Z Z Z<|zg (lawTyped_spec f hw hL) Z<|za Z Z Z<|zVGvnot Z<|zVzPf Z Z Z<|z6<|yq Z (by rw [Bool.eq_false_iff.2 c1]; rfl)<|zSr<|zg (lives18_spec hL hPw) Z<|zVzAb Z<|z6<|zk<|zm (x := .bool _) Z ?_
  rfl
end Go.Proofs.YtpojdepccecpgaaGreatDoor
namespace Go.Proofs.YtpojdepccecpgaaGreatDoor
open Go.Proofs.Tryz
open Go.Proofs Go.Lib Go.Shelf Go.RowKit Go.WideShapes
set_option maxRecDepth 20000
variable {W : World}
theorem decI : Dec prog W 3 encI (fun x => (Lit.int .i64 x).wf = true) := Dec.int Z8
theorem decIs : Dec prog W 23 (fun l : List Int => [.fro 1 (l.map encI)]) wL := fun en held fuel cs x h => by
 obtain ⟨l, hl, r⟩ := Dec.slice (k := 1) j6 decI (by kernel_rfl) (by decide) en held fuel cs x h
 exact ⟨l, hl.2, r⟩
theorem decVar : Dec prog W 58 encVar (fun _ => True) := fun en held fuel cs x h => by
 obtain ⟨xs, n, _, _, hl, hxl, hf⟩ := DataW.trod_struct Z5 h
 have hl : cs.length = 2 := hl.trans (by kernel_rfl)
 have hxl : xs.length = 2 := hxl
 obtain ⟨a, _, ra⟩ := Dec.at (o := 0) (k := 1) (hf 0 _ rfl) (Dec.str Z4) (by omega) rfl (by kernel_rfl)
 obtain ⟨b, _, rb⟩ := Dec.at (o := 1) (k := 1) (hf 1 _ rfl) (Dec.int underlying56) (by omega) rfl (by kernel_rfl)
 exact ⟨⟨a, b⟩, trivial, q6 (o := 0) ra (q6 rb (RepL.fin hl))⟩
theorem decPhi : Dec prog W 71 encPhi wPhi := fun en held fuel cs x h => by
 obtain ⟨xs, n, _, _, hl, hxl, hf⟩ := DataW.trod_struct jj h
 have hl : cs.length = 3 := hl.trans (by kernel_rfl)
 have hxl : xs.length = 3 := hxl
 obtain ⟨a, _, ra⟩ := Dec.at (o := 0) (k := 1) (hf 0 _ rfl) decI (by omega) rfl (by kernel_rfl)
 obtain ⟨b, hb, rb⟩ := Dec.at (o := 1) (k := 1) (hf 1 _ rfl) decIs (by omega) rfl (by kernel_rfl)
 obtain ⟨c, hc, rc⟩ := Dec.at (o := 2) (k := 1) (hf 2 _ rfl) decIs (by omega) rfl (by kernel_rfl)
 exact ⟨⟨a, b, c⟩, ⟨hb, hc⟩, q6 (o := 0) ra (q6 rb (q6 rc (RepL.fin hl)))⟩
def wInst (x : PInst) : Prop := wL x.args ∧ (Lit.int .i64 x.num).wf = true
theorem decInst : Dec prog W 61 encInst wInst := fun en held fuel cs x h => by
 obtain ⟨xs, n, _, _, hl, hxl, hf⟩ := DataW.trod_struct jh h
 have hl : cs.length = 4 := hl.trans (by kernel_rfl)
 have hxl : xs.length = 4 := hxl
 obtain ⟨a, _, ra⟩ := Dec.at (o := 0) (k := 1) (hf 0 _ rfl) (Dec.int underlying59) (by omega) rfl (by kernel_rfl)
 obtain ⟨b, _, rb⟩ := Dec.at (o := 1) (k := 1) (hf 1 _ rfl) decI (by omega) rfl (by kernel_rfl)
 obtain ⟨c, hc, rc⟩ := Dec.at (o := 2) (k := 1) (hf 2 _ rfl) decIs (by omega) rfl (by kernel_rfl)
 obtain ⟨d, hd, rd⟩ := Dec.at (o := 3) (k := 1) (hf 3 _ rfl) (Dec.int underlying2) (by omega) rfl (by kernel_rfl)
 exact ⟨⟨a, b, c, d⟩, ⟨hc, hd⟩, q6 (o := 0) ra (q6 rb (q6 rc (q6 rd (RepL.fin hl))))⟩
theorem decTerm : Dec prog W 66 encTerm (fun _ => True) := fun en held fuel cs x h => by
 obtain ⟨xs, n, _, _, hl, hxl, hf⟩ := DataW.trod_struct je h
 have hl : cs.length = 4 := hl.trans (by kernel_rfl)
 have hxl : xs.length = 3 := hxl
 obtain ⟨a, _, ra⟩ := Dec.at (o := 0) (k := 1) (hf 0 _ rfl) (Dec.int underlying63) (by omega) rfl (by kernel_rfl)
 obtain ⟨b, _, rb⟩ := Dec.at (o := 1) (k := 1) (hf 1 _ rfl) decI (by omega) rfl (by kernel_rfl)
 obtain ⟨c, _, rc⟩ := Dec.at (o := 2) (k := 2) (hf 2 _ rfl) (Dec.pair (k := 1) jr decI (by kernel_rfl) (by kernel_rfl)) (by omega) rfl (by kernel_rfl)
 exact ⟨⟨a, b, c.1, c.2⟩, trivial, q6 (o := 0) ra (q6 rb (q6 rc (RepL.fin hl)))⟩
def NumsI (f : PFunc) : Prop := ∀ b ∈ f.blocks, ∀ x ∈ b.insts, is64 x.num
def wBlkN (b : PBlock) : Prop := wBlk b ∧ ∀ x ∈ b.insts, -9223372036854775808 ≤ x.num ∧ x.num ≤ 9223372036854775807
theorem decBlkN : Dec prog W 69 encBlk wBlkN := fun en held fuel cs x h => by
 obtain ⟨xs, n, _, _, hl, hxl, hf⟩ := DataW.trod_struct j7 h
 have hl : cs.length = 7 := hl.trans (by kernel_rfl)
 have hxl : xs.length = 4 := hxl
 obtain ⟨a, _, ra⟩ := Dec.at (o := 0) (k := 1) (hf 0 _ rfl) (Dec.str Z4) (by omega) rfl (by kernel_rfl)
 obtain ⟨b, hb, rb⟩ := Dec.at (o := 1) (k := 1) (hf 1 _ rfl) (Dec.slice (k := 3) jo decPhi (by kernel_rfl) (by decide)) (by omega) rfl (by kernel_rfl)
 obtain ⟨c, hc, rc⟩ := Dec.at (o := 2) (k := 1) (hf 2 _ rfl) (Dec.slice (k := 4) js decInst (by kernel_rfl) (by decide)) (by omega) rfl (by kernel_rfl)
 obtain ⟨d, _, rd⟩ := Dec.at (o := 3) (k := 4) (hf 3 _ rfl) decTerm (by omega) rfl (by kernel_rfl)
 exact ⟨⟨a, b, c, d⟩, ⟨⟨hb.2, hc.2, hb.1, fun x hx => (hc.1 x hx).1⟩, fun x hx => by simpa [Lit.wf, IntKind.min, IntKind.max, IntKind.signed, IntKind.bits] using (hc.1 x hx).2⟩, q6 (o := 0) ra (q6 rb (q6 rc (q6 rd (RepL.fin hl))))⟩
theorem decFN : Dec prog W 26 encF (fun f => wFunc f ∧ NumsI f) := fun en held fuel cs x h => by
 obtain ⟨xs, n, _, _, hl, hxl, hf⟩ := DataW.trod_struct jd h
 have hl : cs.length = 3 := hl.trans (by kernel_rfl)
 have hxl : xs.length = 3 := hxl
 obtain ⟨a, ha, ra⟩ := Dec.at (o := 0) (k := 1) (hf 0 _ rfl) (Dec.slice (k := 2) jk decVar (by kernel_rfl) (by decide)) (by omega) rfl (by kernel_rfl)
 obtain ⟨b, hb, rb⟩ := Dec.at (o := 1) (k := 1) (hf 1 _ rfl) decIs (by omega) rfl (by kernel_rfl)
 obtain ⟨c, hc, rc⟩ := Dec.at (o := 2) (k := 1) (hf 2 _ rfl) (Dec.slice (k := 7) jc decBlkN (by kernel_rfl) (by decide)) (by omega) rfl (by kernel_rfl)
 exact ⟨⟨a, b, c⟩, ⟨⟨ha.2, hb, hc.2, fun x hx => (hc.1 x hx).1⟩, fun x hx => (hc.1 x hx).2⟩, q6 (o := 0) ra (q6 rb (q6 rc (RepL.fin hl)))⟩
theorem of_struct {H : Type} {enc : TypeId × Value → H} {held : Bool} {α : Type} {T : TypeId} {e : α → List AV} {ok : α → Prop} {fs : Array Field} {base : Nat} {v : Value} {d : DataW H} {p : List MemPlace} (hd : Dec prog W T e ok) (ht : prog.underlying T = some (.struct fs))
  (hv : Value.okWide prog W .any base T v) (h : DataW.Trod enc prog W 0 (fun _ => true) held T v d p) : ∃ a, ok a ∧ RepV (I0 W) (.agg (e a)) v := by
 obtain ⟨cs, rfl, _⟩ := okWide_struct ht hv
 obtain ⟨fuel, h⟩ := h
 obtain ⟨a, h1, h2⟩ := hd enc held fuel _ _ h
 exact ⟨a, h1, cs.toList, by simp, h2⟩
theorem xTab : RExtra prog Tryz.lays200_ren := ⟨by kernel_rfl, by kernel_rfl, by kernel_rfl, by kernel_rfl, by kernel_rfl, by kernel_rfl, by kernel_rfl, by kernel_rfl⟩
theorem letters_of (h : Lib.VarReads prog W "unicode.properties" (Lib.tabData .u8 Lib.propertiesTab)) (h2 : Lib.VarReads prog W "unicode.Letter" (Lib.rtabData letterT)) : Letters W :=
 ⟨tabIs_of_reads (g := 1) (by kernel_rfl) (by kernel_rfl) underlying225 Zu (by kernel_rfl) (by kernel_rfl) h,
  rvar_of_reads { Tryz.lays200 with } xTab (name := "unicode.Letter") (g := 2) (by kernel_rfl) (by kernel_rfl) h2⟩
end Go.Proofs.YtpojdepccecpgaaGreatDoor
namespace Go.Proofs.YtpojdepccecpgaaGreatDoor
open Go.Proofs.Tryz
open Go.Proofs
theorem fMay : prog.mayEnter = true := by kernel_rfl
theorem fLift : (Rows.canonTurnedRow.lifted == prog.liftsFinal) = true := by kernel_rfl
theorem fMake : (prog.make == some Rows.canonTurnedRow.make) = true := by kernel_rfl
theorem fLaid : laidOutB prog = true := by kernel_rfl
theorem fRow : mapsRowed prog = true := by kernel_rfl
theorem fStop : (prog.stops == []) = true := by kernel_rfl
theorem fKnob : (prog.stopKnobs == []) = true := by kernel_rfl
theorem fKeys : (Rows.canonTurnedRow.plainKeys == prog.plainKeys) = true := by kernel_rfl
theorem fHeard : prog.stopsHeard = true := by kernel_rfl
theorem gIn : (Rows.canonTurnedRow.inPlace == prog.inPlace 5) = true := by kernel_rfl
theorem gUn : (Rows.canonTurnedRow.unfollowed == prog.unfollowed 5) = true := by kernel_rfl
theorem gRec : (Rows.canonTurnedRow.recurses == prog.recurses 5) = true := by kernel_rfl
theorem gNam : (Rows.canonTurnedRow.named == prog.varsNamed 5) = true := by kernel_rfl
theorem closed : joinedFacts prog 5 Tryz.f5 Rows.canonTurnedSpec Rows.canonTurnedRow = true := by
 unfold joinedFacts
 rw [fLaid, fRow, fStop, fKnob, gIn, gUn, gRec, gNam, fKeys, fHeard, fMay, fLift, fMake]
 kernel_rfl
end Go.Proofs.YtpojdepccecpgaaGreatDoor
namespace Go.Proofs.YtpojdepccecpgaaGreatDoor
open Go.Proofs.Tryz
open Go.Proofs Go.Lib Go.Shelf Go.RowKit
variable {E : World}
set_option maxRecDepth 20000
end Go.Proofs.YtpojdepccecpgaaGreatDoor
namespace Go.Proofs.YtpojdepccecpgaaGreatDoor
open Go.Proofs.Tryz
open Go.Proofs Go.Lib Go.Shelf Go.RowKit
variable {E : World}
set_option maxRecDepth 20000
end Go.Proofs.YtpojdepccecpgaaGreatDoor
namespace Go.Proofs.YtpojdepccecpgaaGreatDoor
open Go.Proofs.Tryz
open Go.Proofs
variable {E : World}
set_option maxRecDepth 20000
end Go.Proofs.YtpojdepccecpgaaGreatDoor
namespace Go.Proofs.YtpojdepccecpgaaGreatDoor
open Go.Proofs.Tryz
open Go.Proofs
variable {E : World}
set_option maxRecDepth 20000
end Go.Proofs.YtpojdepccecpgaaGreatDoor
namespace Go.Proofs.YtpojdepccecpgaaGreatDoor
open Go.Proofs.Tryz
def AAnyR (P : Program) (E : World) (l : List Oper) (Q : AEnv → OL → Prop) (fuel : Nat) (listed : Array Bool) (env : AEnv) (R Om : OL) : Prop :=
 ∀ I F ρ w Lr, RepE I env ρ → RepOs I R Lr → SLA I Om (Lr ++ F) E w → AnyV P l.toArray (stays I.k Lr E) (stays I.k Lr E) (fun _ => false) (postK I F E Q) fuel listed ρ w
section
variable {E : World} {P : Program} {n : Nat} {l : List Oper} {Q : AEnv → OL → Prop} {fuel : Nat} {listed : Array Bool} {env : AEnv} {O R Om : OL}
variable {d ty : Nat} {op : Op} {pos : String} {af : Array Edge}
theorem AAnyR.takeK {i : Nat} {x : AV} (hi : l[i]? = some (Oper.mk (some d) op ty pos af none)) (hs : Region.noSelect l.toArray = true) (hf : Region.free .any l.toArray listed i = true)
  (hr : (Region.ready .any l.toArray listed).contains i = true) (hg : Gv P env R (Oper.mk (some d) op ty pos af none) x)
  (h : AAnyR P E l Q fuel (listed.setIfInBounds i true) (aupd env d x) R Om) : AAnyR P E l Q (fuel + 1) listed env R Om := fun I F ρ w Lr h1 hLr h2 => by
 obtain ⟨v, hv, hrun⟩ := hg I Lr E ρ h1 hLr
 exact AnyV.takeK hi hs hf hr rfl h2.here (.inr h2.here) (fun w ⟨J, L', a, b, c⟩ => hrun w J L' a b c) (h I F _ w Lr (h1.upd d hv) hLr h2)
theorem AAnyR.one {i : Nat} {o : Oper} (hi : l[i]? = some o) (hr : Region.ready .any l.toArray listed = [i])
  (h : AOps P E l.toArray (fun env' Om' => AAnyR P E l Q fuel (listed.setIfInBounds i true) env' R Om') [o] env Om) : AAnyR P E l Q (fuel + 1) listed env R Om := fun I F ρ w Lr h1 hLr h2 =>
 AnyV.one hi hr (yu (fun ρ' w' ⟨J, env', Om', a, b, c, d⟩ => by
  have hst : stays I.k Lr E w' := by
   obtain ⟨J', L', h3, h4, h5⟩ := c.here
   exact ⟨J', L', a.k.trans h3, h4, h5⟩
  refine ⟨⟨hst, .inr hst⟩, AnyV.mono ?_ ?_ (fun _ _ => yz a) _ _ _ _ (d J F ρ' w' Lr b (hLr.mono a) c)⟩
  ·rintro w ⟨J', L', h3, h4⟩; exact ⟨J', L', a.k.trans h3, h4⟩
  ·rintro w ⟨J', L', h3, h4⟩; exact ⟨J', L', a.k.trans h3, h4⟩) _ _ _ (h I (Lr ++ F) ρ w h1 h2))
theorem AAnyR.done (hr : Region.ready .any l.toArray listed = []) (h : Q env (R ++ Om)) : AAnyR P E l Q fuel listed env R Om := fun I F ρ w Lr h1 hLr h2 =>
 AnyV.done hr ⟨I, env, R ++ Om, .refl _, h1, SLA.together hLr h2, h⟩
end
end Go.Proofs.YtpojdepccecpgaaGreatDoor
namespace Go.Proofs.YtpojdepccecpgaaGreatDoor
open Go.Proofs.Tryz
open Go.Proofs Go.Lib Go.Shelf Go.RowKit
variable {E : World}
set_option maxRecDepth 20000
end Go.Proofs.YtpojdepccecpgaaGreatDoor
namespace Go.Proofs.YtpojdepccecpgaaGreatDoor
open Go.Proofs.Tryz
open Go.Proofs Go.Lib Go.Shelf Go.RowKit
variable {E : World}
set_option maxRecDepth 20000
end Go.Proofs.YtpojdepccecpgaaGreatDoor
namespace Go.Proofs.YtpojdepccecpgaaGreatDoor
open Go.Proofs.Tryz
open Go.Proofs Go.Lib Go.Shelf Go.RowKit
variable {E : World}
set_option maxRecDepth 20000
end Go.Proofs.YtpojdepccecpgaaGreatDoor
namespace Go.Proofs.YtpojdepccecpgaaGreatDoor
open Go.Proofs.Tryz
open Go.Proofs Go.Lib Go.Shelf Go.RowKit
variable {E : World}
set_option maxRecDepth 20000
end Go.Proofs.YtpojdepccecpgaaGreatDoor
namespace Go.Proofs.YtpojdepccecpgaaGreatDoor
open Go.Proofs.Tryz
open Go.Proofs Go.Lib Go.Shelf Go.RowKit
variable {E : World}
set_option maxRecDepth 20000
section
variable {α β : Type} {g : Nat → α → β} {d : β} {n k : Nat} {l : List α}
end
end Go.Proofs.YtpojdepccecpgaaGreatDoor
namespace Go.Proofs.YtpojdepccecpgaaGreatDoor
open Go.Proofs.Tryz
end Go.Proofs.YtpojdepccecpgaaGreatDoor
namespace Go.Proofs.YtpojdepccecpgaaGreatDoor
open Go.Proofs.Tryz
open Go.Proofs Go.Lib Go.Shelf Go.RowKit Go.WideShapes
set_option maxRecDepth 20000
variable {W : World}
end Go.Proofs.YtpojdepccecpgaaGreatDoor
namespace Go.Proofs.YtpojdepccecpgaaGreatDoor
open Go.Proofs.Tryz
open Go.Proofs Go.Lib Go.Shelf Go.RowKit Go.WideShapes
set_option maxRecDepth 20000
variable {W : World}
theorem of_u64 {H : Type} {enc : TypeId × Value → H} {held : Bool} {T : TypeId} {base : Nat} {v : Value} {d : DataW H} {p : List MemPlace} (ht : prog.underlying T = some (.int .u64))
  (hv : Value.okWide prog W .any base T v) (h : DataW.Trod enc prog W 0 (fun _ => true) held T v d p) : ∃ n : Int, (0 ≤ n ∧ n ≤ 18446744073709551615) ∧ v = .int .u64 n := by
 obtain ⟨n, rfl⟩ := okWide_int ht hv
 obtain ⟨fuel, h⟩ := h
 obtain ⟨m, h1, h2⟩ := Dec.int ht enc held fuel _ _ h
 obtain ⟨v, _, e, h2, h3⟩ := h2
 cases e
 cases h2
 exact ⟨n, by simpa [Lit.wf, IntKind.min, IntKind.max, IntKind.signed, IntKind.bits] using h1, rfl⟩
end Go.Proofs.YtpojdepccecpgaaGreatDoor
namespace Go.Proofs.YtpojdepccecpgaaGreatDoor
open Go.Proofs.Tryz
open Go.Proofs Go.Lib Go.Shelf Go.RowKit
variable {W : World}
theorem pows_of (h : Lib.VarReads prog W "internal/strconv.uint64pow10" (Lib.tabData .u64 Lib.pow10Tab)) : Pows W :=
 tabIs_of_reads (g := 0) (by kernel_rfl) (by kernel_rfl) underlying217 Y2 (by kernel_rfl) (by kernel_rfl) h
end Go.Proofs.YtpojdepccecpgaaGreatDoor
