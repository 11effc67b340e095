/- Bytes put behind bytes, and read as a string; a pointer to a variable held against itself. No conditions but bounds. -/
import Derived.Test.YtiojekbkamegdaaGreatDoorKc
import Derived.Laws.BytesArg
import Derived.ProofKit
import Derived.OpenShut
import Derived.Deep.Matrix
import Derived.Lib.LaidU8
import Derived.Lib.LaidTab
import Derived.MapKept
import Derived.WideMake
import Derived.Laws.Cover4
import Derived.WideLaws
import Derived.Lib.AppendZeros
import Derived.Lib.Builder
import Derived.Lib.AppendStr
import Derived.Lib.UnsafeStr
import Derived.Laws.Externs
set_option linter.unusedVariables false
set_option linter.unusedSimpArgs false
set_option linter.unusedSectionVars false
namespace Go.Proofs.YtiojekbkamegdaaGreatDoor
def setsT (l : List Bool) (bs : List Int) : List Bool := bs.foldl (fun l b => l.set b.toNat true) l
theorem setsT_len : ∀ (bs : List Int) (l : List Bool), (setsT l bs).length = l.length
 | [], _ => rfl
 | b :: bs, l => by show (setsT (l.set b.toNat true) bs).length = _; rw [setsT_len bs, List.length_set]
theorem setsT_snoc (l : List Bool) (bs : List Int) (b : Int) : setsT l (bs ++ [b]) = (setsT l bs).set b.toNat true := by unfold setsT; rw [List.foldl_append]; rfl
theorem setsT_get (k : Nat) : ∀ (bs : List Int) (l : List Bool), (∀ b ∈ bs, 0 ≤ b) → k < l.length → (setsT l bs)[k]? = some (decide ((k : Int) ∈ bs) || (l[k]?).getD false)
 | [], l, _, hk => by show l[k]? = _; rw [qd hk]; simp
 | b :: bs, l, h, hk => by
  show (setsT (l.set b.toNat true) bs)[k]? = _
  rw [setsT_get k bs _ (fun c hc => h c (.tail _ hc)) (by rw [List.length_set]; exact hk), List.getElem?_set]
  have h0 := h b (.head _)
  by_cases e : b.toNat = k
  ·have : (k : Int) = b := by omega
   rw [if_pos e, if_pos (by omega), this]; simp
  ·have : ¬ (k : Int) = b := by omega
   rw [if_neg e]; simp [this]
def reachB (E : Int → List Int) (n : Nat) : List Bool := setsT (List.replicate n false) (orderT E n)
theorem reachB_len (E : Int → List Int) (n : Nat) : (reachB E n).length = n := by unfold reachB; rw [setsT_len]; simp
theorem reachB_get {E : Int → List Int} {n : Nat} (hE : EOk E n) {k : Nat} (hk : k < n) : (reachB E n)[k]? = some (decide ((k : Int) ∈ orderT E n)) := by
 unfold reachB
 rw [setsT_get k _ _ (fun b hb => (order_rng hE hb).1) (by simp; exact hk)]
 simp [hk]
theorem reachB_iff {f : PFunc} (hE : EndsOk f) : (reachB (EndsOf f) f.blocks.length).contains false = false ↔ AllRP f := by
 have hG := hE.grph.toEOk
 constructor
 ·intro h i hi
  have hg := reachB_get hG hi
  apply (order_mem hG _).1
  apply Classical.byContradiction
  intro hn
  rw [qq hn] at hg
  have := qm hg
  rw [Bool.eq_false_iff] at h
  exact h (by simpa using this)
 ·intro h
  rw [Bool.eq_false_iff]
  intro hc
  have hc : false ∈ reachB (EndsOf f) f.blocks.length := by simpa using hc
  obtain ⟨k, hk, e⟩ := List.getElem_of_mem hc
  have hk2 := hk
  rw [reachB_len] at hk2
  have hg := reachB_get hG hk2
  rw [qd hk, e] at hg
  have hm := (order_mem hG (k : Int)).2 (h k hk2)
  rw [qp hm] at hg
  cases hg
def phJ (f : PFunc) (i : Nat) (p : PPhi) : Bool := decide (sortI p.from_ = predsT (EndsOf f) f.blocks.length i)
def blkJ (f : PFunc) (i : Nat) : Bool := ((f.blocks[i]?).map fun b => b.phis.all (phJ f i)).getD true
def joinedB (f : PFunc) : Bool := (List.range f.blocks.length).all (blkJ f)
theorem blkJ_at {f : PFunc} {i : Nat} {b : PBlock} (h : f.blocks[i]? = some b) : blkJ f i = b.phis.all (phJ f i) := by unfold blkJ; rw [h]; rfl
theorem joinedB_iff (f : PFunc) : joinedB f = true ↔ JoinP f := by
 unfold joinedB JoinP
 rw [qs]
 constructor
 ·intro h i hi p hp
  have := h i (List.mem_range.2 hi)
  rw [blkJ_at (qd hi), qs] at this
  exact joinS_iff.1 (by simpa [phJ] using this p hp)
 ·intro h i hi
  have hi := List.mem_range.1 hi
  rw [blkJ_at (qd hi), qs]
  intro p hp
  simpa [phJ] using joinS_iff.2 (h i hi p hp)
theorem range_all_succ {p : Nat → Bool} {k : Nat} (h : (List.range k).all p = true) (hk : p k = true) : (List.range (k + 1)).all p = true := by rw [List.range_succ, List.all_append, h]; simp [hk]
theorem range_all_bad {p : Nat → Bool} {k n : Nat} (hk : k < n) (h : p k = false) : (List.range n).all p = false := by
 rw [Bool.eq_false_iff]; intro ha
 have := List.all_eq_true.1 ha k (List.mem_range.2 hk)
 rw [h] at this; cases this
def rowsOf {α : Type} (n : Nat) (ev : List (Int × α)) : List (List α) := (List.range n).map fun (v : Nat) => (ev.filter fun e => decide (e.1 = (v : Int))).map (·.2)
theorem rowsOf_len {α : Type} (n : Nat) (ev : List (Int × α)) : (rowsOf n ev).length = n := by unfold rowsOf; simp
theorem rowsOf_get {α : Type} {n : Nat} (ev : List (Int × α)) {v : Nat} (h : v < n) : (rowsOf n ev)[v]? = some ((ev.filter fun e => decide (e.1 = (v : Int))).map (·.2)) := by unfold rowsOf; rw [ql, List.getElem?_range h]; rfl
theorem rowsOf_nil {α : Type} (n : Nat) : List.replicate n [] = rowsOf (α := α) n [] := by
 apply List.ext_getElem
 ·rw [rowsOf_len]; simp
 ·intro i h1 h2; unfold rowsOf; simp
theorem rowsOf_row {α : Type} {n : Nat} {ev : List (Int × α)} {v : Nat} (h : v < (rowsOf n ev).length) : (rowsOf n ev)[v].length ≤ ev.length := by
 have h2 : v < n := by rwa [rowsOf_len] at h
 have := rowsOf_get ev h2
 rw [qd h] at this
 rw [Option.some.inj this, qk]
 exact List.length_filter_le _ _
theorem rowsOf_push {α : Type} {n : Nat} {ev : List (Int × α)} {c : Int} {x : α} (h0 : 0 ≤ c) (h : c.toNat < (rowsOf n ev).length) : (rowsOf n ev).set c.toNat ((rowsOf n ev)[c.toNat] ++ [x]) = rowsOf n (ev ++ [(c, x)]) := by
 have h2 : c.toNat < n := by rwa [rowsOf_len] at h
 apply List.ext_getElem?
 intro v
 rw [List.getElem?_set]
 by_cases hv : v < n
 ·rw [rowsOf_get _ hv]
  have hr := rowsOf_get ev h2
  rw [qd h] at hr
  rw [Option.some.inj hr]
  by_cases e : c.toNat = v
  ·have : c = (v : Int) := by omega
   rw [if_pos e, if_pos (by rw [rowsOf_len]; omega), rowsOf_get _ hv]
   have e2 : ((c.toNat : Nat) : Int) = c := by omega
   rw [e2, this, List.filter_append, qn]
   simp
  ·have : ¬ c = (v : Int) := by omega
   rw [if_neg e, rowsOf_get _ hv]
   simp [List.filter_append, this]
 ·have hn : (rowsOf n (ev ++ [(c, x)]))[v]? = none := List.getElem?_eq_none (by rw [rowsOf_len]; omega)
  rw [if_neg (by omega), hn, List.getElem?_eq_none (by rw [rowsOf_len]; omega)]
def evPh (i : Nat) (ps : List PPhi) : List (Int × Plc) := ps.map fun p => (p.dst, ((i : Int), -1))
def evIn (i : Nat) (xs : List PInst) : List (Int × Plc) := (xs.zipIdx.filter fun x => decide (0 ≤ x.1.dst)).map fun x => (x.1.dst, ((i : Int), (x.2 : Int)))
def evBl (i : Nat) (b : PBlock) : List (Int × Plc) := evPh i b.phis ++ evIn i b.insts
def evTo (f : PFunc) (k : Nat) : List (Int × Plc) := ((f.blocks.take k).zipIdx).flatMap fun b => evBl b.2 b.1
theorem zipTake {α : Type} {l : List α} {k : Nat} (h : k < l.length) : (l.take (k + 1)).zipIdx = (l.take k).zipIdx ++ [(l[k], k)] := by
 rw [qe h, List.zipIdx_append, qo, Nat.min_eq_left (by omega)]
 simp
theorem evPh_succ (i : Nat) {ps : List PPhi} {j : Nat} (h : j < ps.length) : evPh i (ps.take (j + 1)) = evPh i (ps.take j) ++ [(ps[j].dst, ((i : Int), -1))] := by
 unfold evPh; rw [qe h, qn]; rfl
theorem evIn_succ (i : Nat) {xs : List PInst} {j : Nat} (h : j < xs.length) : evIn i (xs.take (j + 1)) = evIn i (xs.take j) ++ if 0 ≤ xs[j].dst then [(xs[j].dst, ((i : Int), (j : Int)))] else [] := by
 unfold evIn; rw [zipTake h, List.filter_append, qn]
 by_cases h0 : 0 ≤ xs[j].dst
 ·simp [h0]
 ·simp [h0]
theorem evTo_succ {f : PFunc} {k : Nat} (h : k < f.blocks.length) : evTo f (k + 1) = evTo f k ++ evBl k f.blocks[k] := by
 unfold evTo; rw [zipTake h, List.flatMap_append]; simp
theorem evIn_len (i : Nat) (xs : List PInst) : (evIn i xs).length ≤ xs.length := by
 unfold evIn; rw [qk]; exact Nat.le_trans (List.length_filter_le _ _) (by simp)
theorem evBl_len (i : Nat) (b : PBlock) : (evBl i b).length ≤ b.phis.length + b.insts.length := by
 have := evIn_len i b.insts
 unfold evBl evPh; rw [qj, qk]; omega
theorem evTo_len {f : PFunc} {m : Nat} (h : ∀ b ∈ f.blocks, b.phis.length + b.insts.length ≤ m) : ∀ k, k ≤ f.blocks.length → (evTo f k).length ≤ k * m
 | 0, _ => by simp [evTo]
 | k + 1, hk => by
  have h1 := evTo_len h k (by omega)
  have h2 := evBl_len k f.blocks[k]
  have h3 := h _ (qh (show k < f.blocks.length by omega))
  rw [evTo_succ (by omega), qj, Nat.add_mul]; omega
theorem evBl_of (i v : Nat) (b : PBlock) : ((evBl i b).filter fun e => decide (e.1 = (v : Int))).map (·.2) = mkBlk v i b := by
 unfold evBl evPh evIn mkBlk
 rw [List.filter_append, qn, List.filter_map, List.map_map, List.filter_map, List.map_map, List.filter_filter]
 congr 1
 congr 1
 apply List.filter_congr
 intro x _
 by_cases e : x.1.dst = (v : Int)
 ·have : 0 ≤ x.1.dst := by omega
  simp [e]
 ·simp [e]
theorem evTo_of (f : PFunc) (v : Nat) : ((evTo f f.blocks.length).filter fun e => decide (e.1 = (v : Int))).map (·.2) = makings f v := by
 unfold evTo makings
 rw [qi, List.filter_flatMap, List.map_flatMap]
 congr 1
 funext b
 exact evBl_of b.2 v b.1
def makesR (f : PFunc) : List (List Plc) := rowsOf f.vars.length (evTo f f.blocks.length)
theorem makesR_get {f : PFunc} {v : Nat} (h : v < f.vars.length) : (makesR f)[v]? = some (makings f v) := by unfold makesR; rw [rowsOf_get _ h, evTo_of]
theorem makesR_len (f : PFunc) : (makesR f).length = f.vars.length := rowsOf_len _ _
def onceV (f : PFunc) (v : Nat) : Bool := !(decide (1 < (makings f v).length) || decide (0 < (makings f v).length) && decide (v < f.params.length))
def onceB (f : PFunc) : Bool := (List.range f.vars.length).all (onceV f)
theorem onceB_iff (f : PFunc) : onceB f = true ↔ OnceP f := by
 unfold onceB OnceP onceV
 rw [qs]
 constructor
 ·intro h v hv
  have := h v (List.mem_range.2 hv)
  simp only [Bool.not_eq_true', Bool.or_eq_false_iff, Bool.and_eq_false_iff, decide_eq_false_iff_not] at this
  refine ⟨by omega, fun hne=>?_⟩
  have hl := List.length_pos_iff.2 hne
  rcases this.2 with h1 | h1 <;> omega
 ·intro h v hv
  obtain ⟨h1, h2⟩ := h v (List.mem_range.1 hv)
  simp only [Bool.not_eq_true', Bool.or_eq_false_iff, Bool.and_eq_false_iff, decide_eq_false_iff_not]
  refine ⟨by omega, ?_⟩
  by_cases e : makings f v = []
  ·left; rw [e]; simp
  ·right; have := h2 e; omega
def makersT (f : PFunc) : List Plc := (List.range f.vars.length).map fun (v : Nat) => makerT f v
theorem makersT_get {f : PFunc} {v : Nat} (h : v < f.vars.length) : (makersT f)[v]? = some (makerT f v) := by unfold makersT; rw [ql, List.getElem?_range h]; rfl
theorem makersT_len (f : PFunc) : (makersT f).length = f.vars.length := by simp [makersT]
def aheadB (f : PFunc) (m : Plc) (b at_ : Int) : Bool := if m.1 < 0 then true else if m.1 = b then decide (m.2 < at_) else domB (EndsOf f) f.blocks.length m.1 b
theorem aheadB_iff {f : PFunc} (hE : EndsOk f) (m : Plc) (b at_ : Int) : aheadB f m b at_ = true ↔ AheadP f m b at_ := by
 unfold aheadB AheadP
 by_cases h0 : m.1 < 0
 ·rw [if_pos h0]; simp [h0]
 ·rw [if_neg h0]
  by_cases h1 : m.1 = b
  ·rw [if_pos h1]; simp [h1]; omega
  ·rw [if_neg h1, hE.grph.domB_iff]
   constructor
   ·intro h; exact .inr (.inr ⟨by omega, h1, h⟩)
   ·rintro (h | h | h)
    ·exact absurd h h0
    ·exact absurd h.1 h1
    ·exact h.2.2
def phA (f : PFunc) (p : PPhi) : Bool := (p.args.zip p.from_).all fun q => aheadB f (makerT f q.1) q.2 (lenAt f q.2)
def inA (f : PFunc) (i : Nat) (x : PInst × Nat) : Bool := x.1.args.all fun v => aheadB f (makerT f v) i x.2
def tmA (f : PFunc) (i : Nat) (b : PBlock) : Bool := decide (b.term.kind = 0) || aheadB f (makerT f b.term.var) i b.insts.length
def blkA (f : PFunc) (i : Nat) (b : PBlock) : Bool := b.phis.all (phA f) && b.insts.zipIdx.all (inA f i) && tmA f i b
def atA (f : PFunc) (i : Nat) : Bool := ((f.blocks[i]?).map (blkA f i)).getD true
def behB (f : PFunc) : Bool := (List.range f.blocks.length).all (atA f)
theorem atA_at {f : PFunc} {i : Nat} {b : PBlock} (h : f.blocks[i]? = some b) : atA f i = blkA f i b := by unfold atA; rw [h]; rfl
theorem blkA_iff {f : PFunc} (hE : EndsOk f) (i : Nat) (b : PBlock) : blkA f i b = true ↔ BehindP f i b := by
 unfold blkA BehindP
 rw [qr, qr, and_assoc]
 refine and_congr ?_ (and_congr ?_ ?_)
 ·rw [qs]
  refine forall_congr' fun p => forall_congr' fun _=>?_
  unfold phA
  rw [qs]
  exact forall_congr' fun q => forall_congr' fun _ => aheadB_iff hE _ _ _
 ·rw [qs]
  constructor
  ·intro h k hk v hv
   have := h (b.insts[k], k) (List.mem_zipIdx_iff_getElem?.2 (qd hk))
   unfold inA at this
   rw [qs] at this
   exact (aheadB_iff hE _ _ _).1 (this v hv)
  ·intro h x hx
   have hx := List.mem_zipIdx_iff_getElem?.1 hx
   obtain ⟨hk, e⟩ := List.getElem?_eq_some_iff.1 hx
   unfold inA
   rw [qs]
   intro v hv
   exact (aheadB_iff hE _ _ _).2 (h x.2 hk v (by rw [e]; exact hv))
 ·unfold tmA
  rw [Bool.or_eq_true, qt, aheadB_iff hE]
theorem behB_iff {f : PFunc} (hE : EndsOk f) : behB f = true ↔ BehP f := by
 unfold behB BehP
 rw [qs]
 constructor
 ·intro h i hi
  have := h i (List.mem_range.2 hi)
  rw [atA_at (qd hi)] at this
  exact (blkA_iff hE _ _).1 this
 ·intro h i hi
  have hi := List.mem_range.1 hi
  rw [atA_at (qd hi)]
  exact (blkA_iff hE _ _).2 (h i hi)
def singB (f : PFunc) : Bool := joinedB f && (!(reachB (EndsOf f) f.blocks.length).contains false && (onceB f && behB f))
theorem singB_iff {f : PFunc} (hE : EndsOk f) : singB f = true ↔ SingP f := by
 unfold singB SingP
 rw [qr, qr, qr, Bool.not_eq_true', joinedB_iff, reachB_iff hE, onceB_iff, behB_iff hE]
end Go.Proofs.YtiojekbkamegdaaGreatDoor
namespace Go.Proofs.YtiojekbkamegdaaGreatDoor
structure FrS (E : Int → List Int) (a shut : Int) (n : Nat) (out : List Bool) : Prop where
 len : out.length = n
 sound : ∀ b : Nat, out[b]? = some true → FromP E a shut b
def okX (a : Int) (out : List Bool) (shut x : Int) : Prop := x ≠ shut ∧ (x = a ∨ gb out x = true)
instance (a : Int) (out : List Bool) (shut x : Int) : Decidable (okX a out shut x) := by unfold okX; infer_instance
def clTo (E : Int → List Int) (a shut : Int) (out : List Bool) (k : Nat) : Prop := ∀ x : Nat, x < k → okX a out shut x → ∀ y : Nat, (y : Int) ∈ E x → (y : Int) ≠ shut → gb out y = true
def clAt (E : Int → List Int) (a shut : Int) (out : List Bool) (x j : Nat) : Prop := okX a out shut x → ∀ y : Nat, y < j → (y : Int) ∈ E x → (y : Int) ≠ shut → gb out y = true
def nFalse (out : List Bool) : Nat := (out.filter fun b => !b).length
theorem gb_nat (out : List Bool) (k : Nat) : gb out (k : Int) = (out[k]?).getD false := rfl
theorem gb_some {out : List Bool} {k : Nat} (h : k < out.length) : out[k]? = some (gb out k) := by
 rw [gb_nat, qd h]; rfl
theorem FrS.begin (E : Int → List Int) (a shut : Int) (n : Nat) : FrS E a shut n (List.replicate n false) := ⟨by simp, fun b h => by
 rw [List.getElem?_replicate] at h; split at h <;> simp at h⟩
theorem FrS.set {E : Int → List Int} {a shut : Int} {n : Nat} {out : List Bool} (h : FrS E a shut n out) {x y : Nat} (hx : okX a out shut x) (ha : a ≠ shut ∨ (x : Int) ≠ a) (he : (y : Int) ∈ E x) (hy : (y : Int) ≠ shut) : FrS E a shut n (out.set y true) := by
 refine ⟨by rw [List.length_set]; exact h.len, fun b hb => ?_⟩
 by_cases e : b = y
 ·subst e
  refine FromP.step (x := x) ?_ he hy
  rcases hx.2 with e | hg
  ·left
   refine ⟨e, ?_⟩
   rw [← e]; exact hx.1
  ·right
   by_cases hlt : x < out.length
   ·exact h.sound x (by rw [gb_some hlt, hg])
   ·rw [gb_nat, List.getElem?_eq_none (by omega)] at hg; simp at hg
 ·rw [List.getElem?_set_ne (fun e2 => e e2.symm)] at hb; exact h.sound b hb
theorem nFalse_set {out : List Bool} {y : Nat} (hy : y < out.length) (h : gb out y = false) : nFalse (out.set y true) + 1 = nFalse out := unseen_set out y (by rw [gb_some hy, h])
structure FrR (E : Int → List Int) (a shut : Int) (n : Nat) (o0 out : List Bool) (again : Bool) : Prop extends FrS E a shut n out where
 less : nFalse out ≤ nFalse o0
 more : again = true → nFalse out < nFalse o0
 same : again = false → out = o0
theorem FrR.hit {E : Int → List Int} {a shut : Int} {n : Nat} {o0 out : List Bool} {again : Bool} (h : FrR E a shut n o0 out again) {x y : Nat} (hx : okX a out shut x) (he : (y : Int) ∈ E x) (hy : (y : Int) ≠ shut) (hlt : y < n) (hf : gb out y = false) : FrR E a shut n o0 (out.set y true) true := by
 have h1 := nFalse_set (out := out) (y := y) (by rw [h.len]; exact hlt) hf
 have h2 := h.less
 exact { h.toFrS.set hx (by
      by_cases e : (x : Int) = a
      ·left; rw [← e]; exact hx.1
      ·exact .inr e) he hy with
     less := by omega
     more := fun _ => by omega
     same := fun e => by cases e }
theorem FrS.all {E : Int → List Int} {a shut : Int} {n : Nat} {out : List Bool} (hE : Grph E n) (ha : a = a ∧ 0 ≤ a ∧ a < n) (h : FrS E a shut n out) (hc : clTo E a shut out n) (b : Nat) (hb : b < n) : gb out b = true ↔ FromP E a shut b := by
 constructor
 ·intro hg; exact h.sound b (by rw [gb_some (by rw [h.len]; exact hb), hg])
 ·intro hf
  have := FromP.closed (out := fun x : Int => 0 ≤ x ∧ x < n ∧ gb out x = true) (fun x y h1 h2 h3 h4 => by
   have hxr : 0 ≤ x ∧ x < n := by
    rcases h2 with e | h2
    ·rw [e]; exact ha.2
    ·exact ⟨h2.1, h2.2.1⟩
   have hy := hE.rng x hxr.1 hxr.2 y h3
   have e1 : ((x.toNat : Nat) : Int) = x := Int.toNat_of_nonneg hxr.1
   have e2 : ((y.toNat : Nat) : Int) = y := Int.toNat_of_nonneg hy.1
   refine ⟨hy.1, hy.2, ?_⟩
   have := hc x.toNat (by omega) ⟨by rw [e1]; exact h1, by
    rw [e1]
    rcases h2 with e | h2
    ·exact .inl e
    ·exact .inr h2.2.2⟩ y.toNat (by rw [e1, e2]; exact h3) (by rw [e2]; exact h4)
   rwa [e2] at this) hf
  exact this.2.2
open Classical in
noncomputable def fromT (E : Int → List Int) (n : Nat) (a shut : Int) : List Bool := (intsTo n).map fun b => decide (FromP E a shut b)
open Classical in
theorem FrS.eq {E : Int → List Int} {a shut : Int} {n : Nat} {out : List Bool} (hE : Grph E n) (ha : 0 ≤ a ∧ a < n) (h : FrS E a shut n out) (hc : clTo E a shut out n) : out = fromT E n a shut := by
 refine List.ext_getElem (by rw [h.len]; unfold fromT; rw [qk, intsTo_len]) fun k h1 h2 => ?_
 have hk : k < n := by rw [h.len] at h1; exact h1
 have := h.all hE ⟨rfl, ha⟩ hc k hk
 have e1 : out[k] = gb out k := by have := gb_some h1; rw [qd h1] at this; simpa using this
 have e2 : (fromT E n a shut)[k] = decide (FromP E a shut k) := by
  have h3 : (fromT E n a shut)[k]? = some (decide (FromP E a shut k)) := by unfold fromT; rw [ql, intsTo_get hk]; rfl
  rw [qd h2] at h3
  simpa using h3
 rw [e1, e2]
 by_cases hf : FromP E a shut k
 ·rw [qp hf]; exact this.2 hf
 ·rw [qq hf]; exact Bool.eq_false_iff.2 fun e => hf (this.1 e)
open Classical in
noncomputable def reachT (E : Int → List Int) (n : Nat) (shut : Int) : List Bool := (intsTo n).map fun b => decide (Way E (fun x => x ≠ shut) 0 b)
open Classical in
theorem fromT_get {E : Int → List Int} {n k : Nat} {a shut : Int} (hk : k < n) : (fromT E n a shut)[k]? = some (decide (FromP E a shut k)) := by unfold fromT; rw [ql, intsTo_get hk]; rfl
open Classical in
theorem reachT_get {E : Int → List Int} {n k : Nat} {shut : Int} (hk : k < n) : (reachT E n shut)[k]? = some (decide (Way E (fun x => x ≠ shut) 0 k)) := by unfold reachT; rw [ql, intsTo_get hk]; rfl
theorem fromT_len (E : Int → List Int) (n : Nat) (a shut : Int) : (fromT E n a shut).length = n := by unfold fromT; rw [qk, intsTo_len]
theorem reachT_len (E : Int → List Int) (n : Nat) (shut : Int) : (reachT E n shut).length = n := by unfold reachT; rw [qk, intsTo_len]
open Classical in
theorem reachT_eq {E : Int → List Int} {n : Nat} (shut : Int) : (fromT E n 0 shut).set 0 (decide (shut ≠ 0)) = reachT E n shut := by
 refine List.ext_getElem? fun k=>?_
 by_cases hk : k < n
 ·rw [reachT_get hk]
  have hiff := reachedP (E := E) (shut := shut) (b := (k : Int))
  by_cases e : k = 0
  ·subst e
   rw [List.getElem?_set_self (by rw [fromT_len]; exact hk)]
   refine congrArg some (Bool.eq_iff_iff.2 ?_)
   rw [decide_eq_true_iff, decide_eq_true_iff, ← hiff]
   constructor
   ·intro h; exact .inl ⟨rfl, h⟩
   ·rintro (⟨_, h⟩ | ⟨h, _⟩)
    ·exact h
    ·exact absurd rfl h
  ·rw [List.getElem?_set_ne (fun e2 => e e2.symm), fromT_get hk]
   refine congrArg some (Bool.eq_iff_iff.2 ?_)
   rw [decide_eq_true_iff, decide_eq_true_iff, ← hiff]
   constructor
   ·intro h; exact .inr ⟨by omega, h⟩
   ·rintro (⟨h, _⟩ | ⟨_, h⟩)
    ·omega
    ·exact h
 ·rw [List.getElem?_eq_none (by rw [List.length_set, fromT_len]; omega), List.getElem?_eq_none (by rw [reachT_len]; omega)]
end Go.Proofs.YtiojekbkamegdaaGreatDoor
namespace Go.Proofs.YtiojekbkamegdaaGreatDoor
def cntE (v : Nat) (ev : List (Int × Plc)) : Nat := (ev.filter fun e => decide (e.1 = (v : Int))).length
theorem cntE_push (v : Nat) (ev : List (Int × Plc)) (d : Int) (x : Plc) : cntE v (ev ++ [(d, x)]) = cntE v ev + if d = (v : Int) then 1 else 0 := by
 unfold cntE; rw [List.filter_append, qj]
 by_cases h : d = (v : Int) <;> simp [h]
theorem makings_cnt (f : PFunc) (v : Nat) : (makings f v).length = cntE v (evTo f f.blocks.length) := by rw [← evTo_of, qk]; rfl
theorem cntE_le (v : Nat) (ev : List (Int × Plc)) : cntE v ev ≤ ev.length := List.length_filter_le _ _
theorem evTo_pre {f : PFunc} : ∀ {n k : Nat}, k ≤ n → n ≤ f.blocks.length → evTo f k <+: evTo f n
 | 0, k, h, _ => by rw [show k = 0 by omega]; exact List.prefix_refl _
 | n + 1, k, h, hn => by
  by_cases e : k = n + 1
  ·rw [e]; exact List.prefix_refl _
  ·rw [evTo_succ (by omega)]
   exact (evTo_pre (by omega) (by omega)).trans (List.prefix_append _ _)
theorem evPh_pre (i : Nat) (ps : List PPhi) (j : Nat) : evPh i (ps.take j) <+: evPh i ps := by
 unfold evPh
 obtain ⟨r, hr⟩ := List.take_prefix j ps
 exact ⟨r.map fun p => (p.dst, ((i : Int), -1)), by rw [← qn, hr]⟩
theorem evIn_pre (i : Nat) (xs : List PInst) : ∀ (m j : Nat), j ≤ m → m ≤ xs.length → evIn i (xs.take j) <+: evIn i (xs.take m)
 | 0, j, h, _ => by rw [show j = 0 by omega]; exact List.prefix_refl _
 | m + 1, j, h, hm => by
  by_cases e : j = m + 1
  ·rw [e]; exact List.prefix_refl _
  ·rw [evIn_succ i (by omega)]
   exact (evIn_pre i xs m j (by omega) (by omega)).trans (List.prefix_append _ _)
theorem pre_phi {f : PFunc} {k j : Nat} {b : PBlock} (hk : k < f.blocks.length) (hb : f.blocks[k] = b) (hj : j < b.phis.length) : (evTo f k ++ evPh k (b.phis.take j)) ++ [(b.phis[j].dst, ((k : Int), (-1 : Int)))] <+: evTo f f.blocks.length := by
 refine List.IsPrefix.trans ?_ (evTo_pre (show k + 1 ≤ f.blocks.length by omega) (Nat.le_refl _))
 rw [evTo_succ hk, hb, qf, ← evPh_succ k hj, evBl]
 exact (List.prefix_append_right_inj _).2 ((evPh_pre k b.phis (j + 1)).trans (List.prefix_append _ _))
theorem pre_inst {f : PFunc} {k j : Nat} {b : PBlock} (hk : k < f.blocks.length) (hb : f.blocks[k] = b) (hj : j < b.insts.length) (h0 : 0 ≤ b.insts[j].dst) : (evTo f k ++ evPh k b.phis ++ evIn k (b.insts.take j)) ++ [(b.insts[j].dst, ((k : Int), (j : Int)))] <+: evTo f f.blocks.length := by
 refine List.IsPrefix.trans ?_ (evTo_pre (show k + 1 ≤ f.blocks.length by omega) (Nat.le_refl _))
 have h := evIn_succ k hj
 rw [if_pos h0] at h
 rw [evTo_succ hk, hb, qf, ← h, evBl, qf]
 have h2 := evIn_pre k b.insts b.insts.length (j + 1) (by omega) (Nat.le_refl _)
 rw [qi] at h2
 exact (List.prefix_append_right_inj _).2 ((List.prefix_append_right_inj _).2 h2)
theorem maker_hit {f : PFunc} {v : Nat} {pre : List (Int × Plc)} {x : Plc} (hp : pre ++ [((v : Int), x)] <+: evTo f f.blocks.length) (h0 : cntE v pre = 0) : makerT f v = x := by
 obtain ⟨r, hr⟩ := hp
 have h1 : pre.filter (fun e => decide (e.1 = (v : Int))) = [] := List.eq_nil_of_length_eq_zero h0
 unfold makerT
 rw [← evTo_of, ← hr, List.filter_append, List.filter_append, h1]
 simp
theorem maker_none {f : PFunc} {v : Nat} (h0 : cntE v (evTo f f.blocks.length) = 0) : makerT f v = (-1, 0) := by
 unfold makerT
 rw [← evTo_of, List.eq_nil_of_length_eq_zero h0]
 rfl
noncomputable section
def aheadR (f : PFunc) (m : Plc) (b at_ : Int) : Bool := by
 classical exact if m.1 < 0 then true else if m.1 = b then decide (m.2 < at_) else !decide (Way (EndsOf f) (fun x => x ≠ m.1) 0 b)
def phR (f : PFunc) (p : PPhi) : Bool := (p.args.zip p.from_).all fun q => aheadR f (makerT f q.1) q.2 (lenAt f q.2)
def inR (f : PFunc) (i : Nat) (x : PInst × Nat) : Bool := x.1.args.all fun v => aheadR f (makerT f v) i x.2
def tmR (f : PFunc) (i : Nat) (b : PBlock) : Bool := decide (b.term.kind = 0) || aheadR f (makerT f b.term.var) i b.insts.length
def blkR (f : PFunc) (i : Nat) (b : PBlock) : Bool := by
 classical exact decide (Rch (EndsOf f) (i : Int)) && (b.phis.all (phR f) && (b.insts.zipIdx.all (inR f i) && tmR f i b))
def atR (f : PFunc) (i : Nat) : Bool := ((f.blocks[i]?).map (blkR f i)).getD true
def singR (f : PFunc) : Bool := joinedB f && (onceB f && (List.range f.blocks.length).all (atR f))
end
theorem atR_at {f : PFunc} {i : Nat} {b : PBlock} (h : f.blocks[i]? = some b) : atR f i = blkR f i b := by unfold atR; rw [h]; rfl
theorem aheadR_eq {f : PFunc} (hE : EndsOk f) (m : Plc) {b : Int} (at_ : Int) (hb : Rch (EndsOf f) b) : aheadR f m b at_ = aheadB f m b at_ := by
 rw [Bool.eq_iff_iff, aheadB_iff hE]
 unfold aheadR AheadP
 by_cases h0 : m.1 < 0
 ·rw [if_pos h0]; simp [h0]
 ·rw [if_neg h0]
  by_cases h1 : m.1 = b
  ·rw [if_pos h1]; simp [h1]; omega
  ·rw [if_neg h1]
   simp only [Bool.not_eq_true', decide_eq_false_iff_not]
   constructor
   ·intro h; exact .inr (.inr ⟨by omega, h1, hb, h⟩)
   ·rintro (h | h | h)
    ·exact absurd h h0
    ·exact absurd h.1 h1
    ·exact h.2.2.2
theorem singR_eq {f : PFunc} (hE : EndsOk f) (hfr : ∀ b ∈ f.blocks, ∀ p ∈ b.phis, ∀ c ∈ p.from_, 0 ≤ c ∧ c < f.blocks.length) : singR f = singB f := by
 unfold singR singB
 by_cases hA : AllRP f
 ·have hall : (reachB (EndsOf f) f.blocks.length).contains false = false := (reachB_iff hE).2 hA
  rw [hall]
  have hrch : ∀ c : Int, 0 ≤ c → c < f.blocks.length → Rch (EndsOf f) c := fun c h0 h1 => by
   have := hA c.toNat (by omega)
   rwa [show ((c.toNat : Nat) : Int) = c by omega] at this
  have : (List.range f.blocks.length).all (atR f) = behB f := by
   unfold behB
   rw [Bool.eq_iff_iff, qs, qs]
   refine forall_congr' fun i=>?_
   constructor
   all_goals
    intro h hi
    have hi2 := List.mem_range.1 hi
    have h := h hi
    have hget : f.blocks[i]? = some f.blocks[i] := qd hi2
    have hmem := qh hi2
    have e1 : f.blocks[i].phis.all (phR f) = f.blocks[i].phis.all (phA f) := by
     rw [Bool.eq_iff_iff, qs, qs]
     refine forall_congr' fun p => forall_congr' fun hp=>?_
     unfold phR phA
     rw [qs, qs]
     refine forall_congr' fun q => forall_congr' fun hq=>?_
     have hc := hfr _ hmem p hp q.2 (List.of_mem_zip hq).2
     rw [aheadR_eq hE _ _ (hrch q.2 hc.1 hc.2)]
    have e2 : f.blocks[i].insts.zipIdx.all (inR f i) = f.blocks[i].insts.zipIdx.all (inA f i) := by
     rw [Bool.eq_iff_iff, qs, qs]
     refine forall_congr' fun x => forall_congr' fun _=>?_
     unfold inR inA
     rw [qs, qs]
     refine forall_congr' fun v => forall_congr' fun _=>?_
     rw [aheadR_eq hE _ _ (hA i hi2)]
    have e3 : tmR f i f.blocks[i] = tmA f i f.blocks[i] := by unfold tmR tmA; rw [aheadR_eq hE _ _ (hA i hi2)]
    have e : blkR f i f.blocks[i] = blkA f i f.blocks[i] := by
     unfold blkR blkA; rw [e1, e2, e3]; simp [hA i hi2, Bool.and_assoc]
    first
     | (rw [atR_at hget, e] at h; rw [atA_at hget]; exact h)
     | (rw [atA_at hget, ← e] at h; rw [atR_at hget]; exact h)
  rw [this]
  simp
 ·have h1 : (reachB (EndsOf f) f.blocks.length).contains false = true := by
   cases h : (reachB (EndsOf f) f.blocks.length).contains false with
   | true => rfl
   | false => exact absurd ((reachB_iff hE).1 h) hA
  have h2 : (List.range f.blocks.length).all (atR f) = false := by
   rw [Bool.eq_false_iff]
   intro h
   apply hA
   intro i hi
   have := List.all_eq_true.1 h i (List.mem_range.2 hi)
   rw [atR_at (qd hi)] at this
   unfold blkR at this
   simp only [qr, qt] at this
   exact this.1
  rw [h1, h2]
  simp
end Go.Proofs.YtiojekbkamegdaaGreatDoor
namespace Go.Proofs.YtiojekbkamegdaaGreatDoor
abbrev Rng := Int × Int
def m64 : Int := -9223372036854775808
def M64 : Int := 9223372036854775807
def is64 (x : Int) : Prop := -9223372036854775808 ≤ x ∧ x ≤ 9223372036854775807
instance (x : Int) : Decidable (is64 x) := by unfold is64; infer_instance
def ok64 (r : Rng) : Prop := is64 r.1 ∧ is64 r.2
def noR : Rng := (1, 0)
def rMade (lo hi : Int) : Rng := if hi < lo then noR else (lo, hi)
def imin (a b : Int) : Int := if b < a then b else a
def imax (a b : Int) : Int := if a < b then b else a
def rJoin (a b : Rng) : Rng := if a.2 < a.1 then rMade b.1 b.2 else if b.2 < b.1 then a else (imin a.1 b.1, imax a.2 b.2)
def rMeet (a b : Rng) : Rng := rMade (imax a.1 b.1) (imin a.2 b.2)
def rType (t : Int) : Rng := if t = 0 then (m64, M64) else if t = 1 then (0, 1) else if t = 2 then (0, 64) else noR
def op3 (k : Nat) (x y : Int) : Int := if k = 0 then x + y else if k = 1 then x - y else x * y
def fit3 (k : Nat) (x y : Int) : Prop := is64 (op3 k x y)
instance (k : Nat) (x y : Int) : Decidable (fit3 k x y) := by unfold fit3; infer_instance
def near3 (k : Nat) (x y : Int) : Int := if (if k = 2 then decide (x < 0) != decide (y < 0) else decide (x < 0)) then m64 else M64
def one3 (k : Nat) (x y : Int) : Int := if fit3 k x y then op3 k x y else near3 k x y
def rOf (n : Int) : Rng := (n, n)
def cornF (k : Nat) (a b : Rng) : Prop := fit3 k a.1 b.1 ∧ fit3 k a.1 b.2 ∧ fit3 k a.2 b.1 ∧ fit3 k a.2 b.2
instance (k : Nat) (a b : Rng) : Decidable (cornF k a b) := by unfold cornF; infer_instance
def hullQ (a b : Int) : Rng := if b < a then (b, a) else (a, b)
def wideQ (a b : Rng) : Rng := (if b.1 < a.1 then b.1 else a.1, if a.2 < b.2 then b.2 else a.2)
def clipQ (k : Nat) (a b : Rng) : Rng := wideQ (hullQ (one3 k a.1 b.1) (one3 k a.1 b.2)) (hullQ (one3 k a.2 b.1) (one3 k a.2 b.2))
end Go.Proofs.YtiojekbkamegdaaGreatDoor
namespace Go.Proofs.YtiojekbkamegdaaGreatDoor
def rSub (r s : Rng) : Prop := r.2 < r.1 ∨ (s.1 ≤ r.1 ∧ r.2 ≤ s.2)
theorem rSub.refl (r : Rng) : rSub r r := .inr ⟨Int.le_refl _, Int.le_refl _⟩
theorem rSub.trans {r s t : Rng} (h : rSub r s) (k : rSub s t) : rSub r t := by
 rcases h with h | h
 ·exact .inl h
 ·rcases k with k | k
  ·exact .inl (by omega)
  ·exact .inr (by omega)
end Go.Proofs.YtiojekbkamegdaaGreatDoor
namespace Go.Proofs.YtiojekbkamegdaaGreatDoor
def quoQ (a b : Rng) : Rng := wideQ (hullQ (a.1.tdiv b.1) (a.1.tdiv b.2)) (hullQ (a.2.tdiv b.1) (a.2.tdiv b.2))
def divQ (a b : Rng) : Rng :=
 if a.1 = m64 ∧ b.1 ≤ -1 ∧ -1 ≤ b.2 then (m64, M64) else
 if b.1 = 0 ∧ b.2 = 0 then noR else
 if 0 ≤ b.1 then quoQ a (if b.1 = 0 then 1 else b.1, b.2) else
 if b.2 ≤ 0 then quoQ a (b.1, if b.2 = 0 then -1 else b.2) else wideQ (quoQ a (b.1, -1)) (quoQ a (1, b.2))
end Go.Proofs.YtiojekbkamegdaaGreatDoor
namespace Go.Proofs.YtiojekbkamegdaaGreatDoor
def far (b : Rng) : Int := imax (if b.1 < 0 then -b.1 else b.1) (if b.2 < 0 then -b.2 else b.2) - 1
def remQ (a b : Rng) : Rng := if b.1 = 0 ∧ b.2 = 0 then noR else (if a.1 < 0 then imax (-(far b)) a.1 else 0, if 0 < a.2 then imin (far b) a.2 else 0)
def truQ (no yes : Bool) : Rng := (if no then 0 else 1, if yes then 1 else 0)
def eqQ (a b : Rng) : Rng := truQ (!(decide (a.1 = a.2) && decide (a = b))) (!decide ((rMeet a b).2 < (rMeet a b).1))
def ltQ (a b : Rng) : Rng := truQ (decide (b.1 ≤ a.2)) (decide (a.1 < b.2))
def leQ (a b : Rng) : Rng := truQ (decide (b.1 < a.2)) (decide (a.1 ≤ b.2))
def notQ (a : Rng) : Rng := truQ (decide (a.2 = 1)) (decide (a.1 = 0))
def andQ (a b : Rng) : Rng := truQ (decide (a.1 = 0) || decide (b.1 = 0)) (decide (a.2 = 1) && decide (b.2 = 1))
def cutQ (num : Int) (a b : Rng) : Rng :=
 if num = 0 then (if b.2 = m64 then noR else rMeet a (m64, b.2 - 1)) else
 if num = 1 then rMeet a (m64, b.2) else
 if num = 2 then rMeet a b else
 if num = 3 then rMeet a (b.1, M64) else
 if num = 4 then (if b.1 = M64 then noR else rMeet a (b.1 + 1, M64)) else a
end Go.Proofs.YtiojekbkamegdaaGreatDoor
namespace Go.Proofs.YtiojekbkamegdaaGreatDoor
def allR : Rng := (m64, M64)
def sumQ (k : Nat) (a b : Rng) (chk : Bool) : Rng := if chk = true ∨ cornF k a b then clipQ k a b else allR
def ra (rs : List Rng) (i : Nat) : Rng := (rs[i]?).getD (0, 0)
def instQ (op num : Int) (rs : List Rng) (chk : Bool) : Rng :=
 if op = 0 then rOf num else if op = 1 ∨ op = 12 then ra rs 0 else
 if op = 2 then sumQ 0 (ra rs 0) (ra rs 1) chk else if op = 3 then sumQ 1 (ra rs 0) (ra rs 1) chk else if op = 4 then sumQ 2 (ra rs 0) (ra rs 1) chk else
 if op = 5 then divQ (ra rs 0) (ra rs 1) else if op = 6 then remQ (ra rs 0) (ra rs 1) else
 if op = 7 then eqQ (ra rs 0) (ra rs 1) else if op = 8 then ltQ (ra rs 0) (ra rs 1) else if op = 9 then leQ (ra rs 0) (ra rs 1) else
 if op = 10 then notQ (ra rs 0) else if op = 11 then andQ (ra rs 0) (ra rs 1) else
 if op = 15 then rMeet (ra rs 0) (0, 64) else if op = 16 then rOf 0 else
 if op = 25 then cutQ num (ra rs 0) (ra rs 1) else if op = 26 then cutQ 0 (rMeet (ra rs 0) (0, M64)) (ra rs 1) else allR
structure Less (a a' : Rng) : Prop where
 ok : ok64 a
 ok' : ok64 a'
 ne : a.1 ≤ a.2
 sub : a'.1 ≤ a.1 ∧ a.2 ≤ a'.2
theorem Less.zero : Less (0, 0) (0, 0) := ⟨⟨by decide, by decide⟩, ⟨by decide, by decide⟩, by decide, by decide, by decide⟩
end Go.Proofs.YtiojekbkamegdaaGreatDoor
namespace Go.Proofs.YtiojekbkamegdaaGreatDoor
def lv (l : List Rng) (v : Int) : Rng := (l[v.toNat]?).getD noR
def widQ (t : Rng) (a b : Rng) : Rng :=
 let j := rJoin a b
 if a.2 < a.1 then j else (if j.1 < a.1 ∧ t.1 ≤ t.2 then imin j.1 t.1 else j.1, if a.2 < j.2 ∧ t.1 ≤ t.2 then imax j.2 t.2 else j.2)
structure Rules (n : Nat) (rule : List Rng → Int → Rng) (vs : List Int) : Prop where
 mono : ∀ l l' v, l.length = n → l'.length = n → (∀ u : Int, 0 ≤ u → rSub (lv l u) (lv l' u)) → (∀ u : Int, 0 ≤ u → ok64 (lv l u)) → (∀ u : Int, 0 ≤ u → ok64 (lv l' u)) → v ∈ vs → rSub (rule l v) (rule l' v)
 ok : ∀ l v, l.length = n → (∀ u : Int, 0 ≤ u → ok64 (lv l u)) → v ∈ vs → ok64 (rule l v)
 rng : ∀ v ∈ vs, 0 ≤ v ∧ v < n
def growR (rule : List Rng → Int → Rng) (wid : Int → Option Rng) (l : List Rng) (v : Int) : Rng :=
 match wid v with
 | some t => widQ t (lv l v) (rule l v)
 | none => rJoin (lv l v) (rule l v)
def growS (rule : List Rng → Int → Rng) (wid : Int → Option Rng) (l : List Rng) (v : Int) : List Rng := l.set v.toNat (growR rule wid l v)
def growA (rule : List Rng → Int → Rng) (wid : Int → Option Rng) (vs : List Int) (l : List Rng) : List Rng := vs.foldl (growS rule wid) l
end Go.Proofs.YtiojekbkamegdaaGreatDoor
namespace Go.Proofs.YtiojekbkamegdaaGreatDoor
section
variable {n : Nat} {rule : List Rng → Int → Rng} {widn : Nat → Int → Option Rng} {vs : List Int} (hR : Rules n rule vs) (hw : ∀ i v t, widn i v = some t → ok64 t)
include hR hw
end
end Go.Proofs.YtiojekbkamegdaaGreatDoor
namespace Go.Proofs.YtiojekbkamegdaaGreatDoor
def tyV (f : PFunc) (v : Int) : Int := ((f.vars[v.toNat]?).map (·.ty)).getD 0
def ofR (f : PFunc) (l : List Rng) (v : Int) : Rng := rMeet (lv l v) (rType (tyV f v))
def phiR (f : PFunc) (l : List Rng) (p : PPhi) : Rng := p.args.foldl (fun acc v => rJoin acc (ofR f l v)) noR
def argsR (f : PFunc) (l : List Rng) (x : PInst) : List Rng := x.args.map (ofR f l)
def rEmp (r : Rng) : Bool := decide (r.2 < r.1)
def instR (f : PFunc) (chk : Int → Bool) (l : List Rng) (x : PInst) : Rng := if (argsR f l x).any rEmp then noR else instQ x.op x.num (argsR f l x) (chk x.dst)
def ruleR (f : PFunc) (chk : Int → Bool) (l : List Rng) (v : Int) : Rng :=
 let m := makerT f v
 match f.blocks[m.1.toNat]? with
 | none => noR
 | some b => if 0 ≤ m.2 then (match b.insts[m.2.toNat]? with | none => noR | some x => instR f chk l x) else (match b.phis.find? fun p => decide (p.dst = v) with | none => noR | some p => phiR f l p)
end Go.Proofs.YtiojekbkamegdaaGreatDoor
namespace Go.Proofs.YtiojekbkamegdaaGreatDoor
def chkQ (f : PFunc) (op : Int) (args : List Int) (i : Nat) (block at_ : Int) (q : PInst × Nat) : Bool := decide (q.1.op = op) && decide (q.1.args = args) && aheadB f ((i : Int), (q.2 : Int)) block at_
def chkI (f : PFunc) (op : Int) (args : List Int) (block at_ : Int) (i : Nat) : Bool := ((f.blocks[i]?).map fun b => b.insts.zipIdx.any (chkQ f op args i block at_)).getD false
def chkW (f : PFunc) (op : Int) (args : List Int) (block at_ : Int) : Bool := (List.range f.blocks.length).any (chkI f op args block at_)
def isSum (op : Int) : Bool := decide (op = 2 ∨ op = 3 ∨ op = 4)
def chkX (f : PFunc) (x : PInst) (block at_ : Int) : Bool := isSum x.op && chkW f (x.op + 19) x.args block at_
def instAt (f : PFunc) (m : Plc) : Option PInst := if 0 ≤ m.1 ∧ 0 ≤ m.2 then (f.blocks[m.1.toNat]?).bind fun b => b.insts[m.2.toNat]? else none
def chkV (f : PFunc) (v : Int) : Bool := ((instAt f (makerT f v)).map fun x => chkX f x (makerT f v).1 (makerT f v).2).getD false
theorem mem_mkBlk {v i : Int} {b : PBlock} {m : Plc} : m ∈ mkBlk v i b ↔ (∃ p ∈ b.phis, p.dst = v ∧ m = (i, -1)) ∨ ∃ (k : Nat) (x : PInst), b.insts[k]? = some x ∧ x.dst = v ∧ m = (i, (k : Int)) := by
 unfold mkBlk
 rw [List.mem_append]
 constructor
 ·rintro (h | h)
  ·obtain ⟨p, hp, e⟩ := List.mem_map.1 h
   obtain ⟨h1, h2⟩ := List.mem_filter.1 hp
   exact .inl ⟨p, h1, by simpa using h2, e.symm⟩
  ·obtain ⟨q, hq, e⟩ := List.mem_map.1 h
   obtain ⟨h1, h2⟩ := List.mem_filter.1 hq
   obtain ⟨x, k⟩ := q
   have := List.mem_zipIdx_iff_getElem?.1 h1
   exact .inr ⟨k, x, this, by simpa using h2, e.symm⟩
 ·rintro (⟨p, h1, h2, rfl⟩ | ⟨k, x, h1, h2, rfl⟩)
  ·exact .inl (List.mem_map.2 ⟨p, List.mem_filter.2 ⟨h1, by simpa using h2⟩, rfl⟩)
  ·exact .inr (List.mem_map.2 ⟨(x, k), List.mem_filter.2 ⟨List.mem_zipIdx_iff_getElem?.2 h1, by simpa using h2⟩, rfl⟩)
theorem mem_makings {f : PFunc} {v : Int} {m : Plc} : m ∈ makings f v ↔ ∃ (i : Nat) (b : PBlock), f.blocks[i]? = some b ∧ m ∈ mkBlk v i b := by
 unfold makings
 rw [List.mem_flatMap]
 constructor
 ·rintro ⟨⟨b, i⟩, h1, h2⟩; exact ⟨i, b, List.mem_zipIdx_iff_getElem?.1 h1, h2⟩
 ·rintro ⟨i, b, h1, h2⟩; exact ⟨(b, i), List.mem_zipIdx_iff_getElem?.2 h1, h2⟩
theorem maker_mem {f : PFunc} {v : Int} (h : 0 ≤ (makerT f v).1) : makerT f v ∈ makings f v := by
 unfold makerT at h ⊢
 cases hm : makings f v with
 | nil => rw [hm] at h; simp at h
 | cons x l => simp
theorem maker_eq {f : PFunc} {v : Int} {m : Plc} (hl : (makings f v).length ≤ 1) (h : m ∈ makings f v) : makerT f v = m := by
 unfold makerT
 cases hm : makings f v with
 | nil => rw [hm] at h; cases h
 | cons x l =>
  rw [hm] at h hl
  cases l with
  | nil => simp at h; simp [h]
  | cons y l => simp at hl
theorem maker_cases {f : PFunc} {v : Int} (h : 0 ≤ (makerT f v).1) : ∃ (i : Nat) (b : PBlock), f.blocks[i]? = some b ∧ ((∃ p ∈ b.phis, p.dst = v ∧ makerT f v = ((i : Int), -1)) ∨ ∃ (k : Nat) (x : PInst), b.insts[k]? = some x ∧ x.dst = v ∧ makerT f v = ((i : Int), (k : Int))) := by
 obtain ⟨i, b, h1, h2⟩ := mem_makings.1 (maker_mem h)
 exact ⟨i, b, h1, mem_mkBlk.1 h2⟩
theorem chkV_at {f : PFunc} {v : Int} {i k : Nat} {b : PBlock} {x : PInst} (hb : f.blocks[i]? = some b) (hx : b.insts[k]? = some x) (hm : makerT f v = ((i : Int), (k : Int))) : chkV f v = chkX f x i k := by
 unfold chkV instAt
 rw [hm, if_pos ⟨by dsimp only; omega, by dsimp only; omega⟩]
 show (((f.blocks[i]?).bind fun b => b.insts[k]?).map fun x => chkX f x i k).getD false = _
 rw [hb]; show ((b.insts[k]?).map _).getD false = _
 rw [hx]; rfl
end Go.Proofs.YtiojekbkamegdaaGreatDoor
namespace Go.Proofs.YtiojekbkamegdaaGreatDoor
def cntB (op : Int) : Bool := decide (op = 0 ∨ (2 ≤ op ∧ op ≤ 12) ∨ op = 16)
def trnB (op : Int) : Bool := decide (op = 2 ∨ op = 4 ∨ op = 7 ∨ op = 11)
def mapI (r : Int → Int) (x : PInst) : PInst := ⟨x.op, x.dst, x.args.map r, x.num⟩
def sameI (x y : PInst) : Bool := cntB x.op && (decide (x.op = y.op ∧ x.num = y.num) && (decide (x.args = y.args) || (trnB x.op && (decide (x.args.length = 2) && decide (x.args = y.args.reverse)))))
theorem sameI_iff {x y : PInst} : sameI x y = true ↔ cntB x.op = true ∧ (x.op = y.op ∧ x.num = y.num) ∧ (x.args = y.args ∨ (trnB x.op = true ∧ x.args.length = 2 ∧ x.args = y.args.reverse)) := by
 unfold sameI; simp only [qr, Bool.or_eq_true, qt]
theorem sameI_symm {x y : PInst} (h : sameI x y = true) : sameI y x = true := by
 obtain ⟨h1, ⟨h2, h3⟩, h4⟩ := sameI_iff.1 h
 refine sameI_iff.2 ⟨h2 ▸ h1, ⟨h2.symm, h3.symm⟩, ?_⟩
 rcases h4 with h4 | ⟨h5, h6, h7⟩
 ·exact .inl h4.symm
 ·exact .inr ⟨h2 ▸ h5, by rw [h7, List.length_reverse] at h6; exact h6, by rw [h7, List.reverse_reverse]⟩
theorem sameI_trans {x y z : PInst} (h : sameI x y = true) (k : sameI y z = true) : sameI x z = true := by
 obtain ⟨h1, ⟨h2, h3⟩, h4⟩ := sameI_iff.1 h
 obtain ⟨k1, ⟨k2, k3⟩, k4⟩ := sameI_iff.1 k
 refine sameI_iff.2 ⟨h1, ⟨h2.trans k2, h3.trans k3⟩, ?_⟩
 rcases h4 with h4 | ⟨h5, h6, h7⟩
 ·rcases k4 with k4 | ⟨k5, k6, k7⟩
  ·exact .inl (h4.trans k4)
  ·exact .inr ⟨h2 ▸ k5, by rw [h4]; exact k6, by rw [h4, k7]⟩
 ·rcases k4 with k4 | ⟨k5, k6, k7⟩
  ·exact .inr ⟨h5, h6, by rw [h7, k4]⟩
  ·exact .inl (by rw [h7, k7, List.reverse_reverse])
theorem sameI_map (r : Int → Int) {x y : PInst} (h : sameI x y = true) : sameI (mapI r x) (mapI r y) = true := by
 obtain ⟨h1, h2, h4⟩ := sameI_iff.1 h
 refine sameI_iff.2 ⟨h1, h2, ?_⟩
 rcases h4 with h4 | ⟨h5, h6, h7⟩
 ·exact .inl (by show x.args.map r = y.args.map r; rw [h4])
 ·exact .inr ⟨h5, by show (x.args.map r).length = 2; rw [qk]; exact h6, by show x.args.map r = (y.args.map r).reverse; rw [h7, List.map_reverse]⟩
def AtI (f : PFunc) (i k : Nat) (x : PInst) : Prop := ∃ b, f.blocks[i]? = some b ∧ b.insts[k]? = some x
def NumI (f : PFunc) (i k : Nat) (x : PInst) : Prop := AtI f i k x ∧ cntB x.op = true
def AheadI (f : PFunc) (i' k' i k : Nat) : Prop := AheadP f ((i' : Int), (k' : Int)) i k
theorem AtI.one {f : PFunc} {i k : Nat} {x y : PInst} (h : AtI f i k x) (g : AtI f i k y) : x = y := by
 obtain ⟨b, h1, h2⟩ := h
 obtain ⟨c, g1, g2⟩ := g
 rw [h1] at g1
 cases Option.some.inj g1
 rw [h2] at g2
 exact Option.some.inj g2
structure Roots (f : PFunc) (r : Int → Int) : Prop where
 id : ∀ v, (∀ i k x, NumI f i k x → x.dst ≠ v) → r v = v
 rt : ∀ i k y, NumI f i k y → r y.dst = y.dst ∨ ∃ i' k' x, NumI f i' k' x ∧ AheadI f i' k' i k ∧ r x.dst = x.dst ∧ r y.dst = x.dst ∧ sameI (mapI r x) (mapI r y) = true
 no : ∀ i k y i' k' x, NumI f i k y → NumI f i' k' x → AheadI f i' k' i k → r x.dst = x.dst → r y.dst = y.dst → sameI (mapI r x) (mapI r y) = false
structure NumH (f : PFunc) (rk : Nat → Nat → Nat) : Prop where
 less : ∀ i k y i' k' x, NumI f i k y → NumI f i' k' x → AheadI f i' k' i k → rk i' k' < rk i k
 arg : ∀ i k y a i' k' x, NumI f i k y → a ∈ y.args → NumI f i' k' x → x.dst = a → AheadI f i' k' i k
 total : ∀ i k y i1 k1 x1 i2 k2 x2, NumI f i k y → NumI f i1 k1 x1 → NumI f i2 k2 x2 → AheadI f i1 k1 i k → AheadI f i2 k2 i k → AheadI f i1 k1 i2 k2 ∨ AheadI f i2 k2 i1 k1 ∨ (i1 = i2 ∧ k1 = k2)
 trans : ∀ i k y i1 k1 x1 i2 k2 x2, NumI f i k y → NumI f i1 k1 x1 → NumI f i2 k2 x2 → AheadI f i1 k1 i2 k2 → AheadI f i2 k2 i k → AheadI f i1 k1 i k
 made : ∀ i k y i1 k1 x1, NumI f i k y → NumI f i1 k1 x1 → x1.dst = y.dst → i1 = i ∧ k1 = k
theorem anc_total {N : Int → Int} {b a : Int} (h : Anc N b a) : ∀ c, Anc N b c → Anc N a c ∨ Anc N c a := by
 induction h with
 | refl => exact fun c hc => .inl hc
 | up h1 h2 h3 ih =>
  intro c hc
  rcases hc.cases' with e | ⟨_, _, g⟩
  ·rw [e]; exact .inr (.up h1 h2 h3)
  ·exact ih c g
theorem dom_total {E : Int → List Int} {n : Nat} (hG : Grph E n) {a b c : Int} (h : Dom E a b) (k : Dom E c b) : Dom E c a ∨ Dom E a c := by
 have hb : b ∈ orderT E n := (order_mem hG.toEOk b).2 h.1
 have ha : a ∈ orderT E n := (order_mem hG.toEOk a).2 h.rch
 have hc : c ∈ orderT E n := (order_mem hG.toEOk c).2 k.rch
 rcases anc_total ((hG.dom_iff hb).1 h) c ((hG.dom_iff hb).1 k) with g | g
 ·exact .inl ((hG.dom_iff ha).2 g)
 ·exact .inr ((hG.dom_iff hc).2 g)
theorem numH_of {f : PFunc} {M : Nat} (hE : EndsOk f) (hA : AllRP f) (ho : OnceP f) (hB : BehP f) (hd : ∀ i k x, NumI f i k x → 0 ≤ x.dst ∧ x.dst < f.vars.length) (hM : ∀ b ∈ f.blocks, b.insts.length ≤ M) :
  NumH f (fun i k => (gi (levG (EndsOf f) f.blocks.length) (i : Int)).toNat * (M + 1) + k) := by
 have hG := hE.grph
 have hlt : ∀ i k x, AtI f i k x → i < f.blocks.length ∧ k ≤ M := fun i k x ⟨b, h1, h2⟩ => by
  have := hM b (qm h1)
  have := (List.getElem?_eq_some_iff.1 h2).1
  exact ⟨(List.getElem?_eq_some_iff.1 h1).1, by omega⟩
 have hord : ∀ i k x, AtI f i k x → (i : Int) ∈ orderT (EndsOf f) f.blocks.length := fun i k x h => (order_mem hG.toEOk _).2 (hA i (hlt i k x h).1)
 refine ⟨fun i k y i' k' x hy hx ha => ?_, fun i k y a i' k' x hy ha hx e => ?_, fun i k y i1 k1 x1 i2 k2 x2 hy h1 h2 a1 a2 => ?_, fun i k y i1 k1 x1 i2 k2 x2 hy h1 h2 a1 a2 => ?_, fun i k y i1 k1 x1 hy h1 e => ?_⟩
 ·rcases ha with ha | ⟨ha, hb⟩ | ⟨_, ha, hb⟩
  ·dsimp only at ha; omega
  ·dsimp only at ha hb
   have : i' = i := by omega
   subst this
   omega
  ·dsimp only at ha hb
   have hi := hord _ _ _ hy.1
   have hl := hG.lev_anc hi ((hG.dom_iff hi).1 hb)
   have h0 := hG.lev_nn hl.1
   have h3 : gi (levG (EndsOf f) f.blocks.length) (i' : Int) < gi (levG (EndsOf f) f.blocks.length) (i : Int) := by
    rcases Int.lt_or_le (gi (levG (EndsOf f) f.blocks.length) (i' : Int)) (gi (levG (EndsOf f) f.blocks.length) (i : Int)) with h | h
    ·exact h
    ·exact absurd (hl.2.2 h) ha
   have hk := (hlt _ _ _ hx.1).2
   have h4 : (gi (levG (EndsOf f) f.blocks.length) (i' : Int)).toNat + 1 ≤ (gi (levG (EndsOf f) f.blocks.length) (i : Int)).toNat := by omega
   have h5 := Nat.mul_le_mul_right (M + 1) h4
   rw [Nat.add_mul] at h5
   omega
 ·obtain ⟨b, hb1, hb2⟩ := hy.1
  obtain ⟨hi, eb⟩ := List.getElem?_eq_some_iff.1 hb1
  obtain ⟨hk, ey⟩ := List.getElem?_eq_some_iff.1 hb2
  have h1 := (hB i hi).2.1 k (by rw [eb]; exact hk) a (by simp only [eb, ey]; exact ha)
  have hdx := hd _ _ _ hx
  obtain ⟨c, hc1, hc2⟩ := hx.1
  have hone : (makings f a).length ≤ 1 := by
   have := (ho x.dst.toNat (by omega)).1
   rwa [show ((x.dst.toNat : Nat) : Int) = a by omega] at this
  have hm : makerT f a = ((i' : Int), (k' : Int)) := maker_eq hone (mem_makings.2 ⟨i', c, hc1, mem_mkBlk.2 (.inr ⟨k', x, hc2, e, rfl⟩)⟩)
  rw [hm] at h1
  exact h1
 ·rcases a1 with a1 | ⟨a1, b1⟩ | ⟨_, a1, b1⟩
  ·dsimp only at a1; omega
  ·dsimp only at a1 b1
   have e1 : i1 = i := by omega
   subst e1
   rcases a2 with a2 | ⟨a2, b2⟩ | ⟨_, a2, b2⟩
   ·dsimp only at a2; omega
   ·dsimp only at a2 b2
    have e2 : i2 = i1 := by omega
    subst e2
    rcases Nat.lt_trichotomy k1 k2 with h | h | h
    ·exact .inl (.inr (.inl ⟨rfl, by dsimp only; omega⟩))
    ·exact .inr (.inr ⟨rfl, h⟩)
    ·exact .inr (.inl (.inr (.inl ⟨rfl, by dsimp only; omega⟩)))
   ·exact .inr (.inl (.inr (.inr ⟨by dsimp only; omega, a2, b2⟩)))
  ·dsimp only at a1 b1
   rcases a2 with a2 | ⟨a2, b2⟩ | ⟨_, a2, b2⟩
   ·dsimp only at a2; omega
   ·dsimp only at a2 b2
    have e2 : i2 = i := by omega
    subst e2
    exact .inl (.inr (.inr ⟨by dsimp only; omega, a1, b1⟩))
   ·dsimp only at a2 b2
    by_cases e : i1 = i2
    ·subst e
     rcases Nat.lt_trichotomy k1 k2 with h | h | h
     ·exact .inl (.inr (.inl ⟨rfl, by dsimp only; omega⟩))
     ·exact .inr (.inr ⟨rfl, h⟩)
     ·exact .inr (.inl (.inr (.inl ⟨rfl, by dsimp only; omega⟩)))
    ·rcases dom_total hG b1 b2 with h | h
     ·exact .inr (.inl (.inr (.inr ⟨by dsimp only; omega, by dsimp only; omega, h⟩)))
     ·exact .inl (.inr (.inr ⟨by dsimp only; omega, by dsimp only; omega, h⟩))
 ·rcases a1 with a1 | ⟨a1, b1⟩ | ⟨_, a1, b1⟩
  ·dsimp only at a1; omega
  ·dsimp only at a1 b1
   have e1 : i1 = i2 := by omega
   subst e1
   rcases a2 with a2 | ⟨a2, b2⟩ | ⟨_, a2, b2⟩
   ·dsimp only at a2; omega
   ·exact .inr (.inl ⟨a2, by dsimp only at b2 ⊢; omega⟩)
   ·exact .inr (.inr ⟨by dsimp only; omega, a2, b2⟩)
  ·dsimp only at a1 b1
   rcases a2 with a2 | ⟨a2, b2⟩ | ⟨_, a2, b2⟩
   ·dsimp only at a2; omega
   ·dsimp only at a2 b2
    have e2 : i2 = i := by omega
    subst e2
    exact .inr (.inr ⟨by dsimp only; omega, a1, b1⟩)
   ·dsimp only at a2 b2
    refine .inr (.inr ⟨by dsimp only; omega, fun e=>?_, b1.trans b2⟩)
    dsimp only at e
    have e : i1 = i := by omega
    subst e
    have hi := hord _ _ _ hy.1
    have hi2 := hord _ _ _ h2.1
    have l1 := hG.lev_anc hi2 ((hG.dom_iff hi2).1 b1)
    have l2 := hG.lev_anc hi ((hG.dom_iff hi).1 b2)
    exact a1 (l1.2.2 l2.2.1)
 ·have hdy := hd _ _ _ hy
  have hone : (makings f y.dst).length ≤ 1 := by
   have := (ho y.dst.toNat (by omega)).1
   rwa [show ((y.dst.toNat : Nat) : Int) = y.dst by omega] at this
  obtain ⟨b, hb1, hb2⟩ := hy.1
  obtain ⟨c, hc1, hc2⟩ := h1.1
  have m1 : makerT f y.dst = ((i : Int), (k : Int)) := maker_eq hone (mem_makings.2 ⟨i, b, hb1, mem_mkBlk.2 (.inr ⟨k, y, hb2, rfl, rfl⟩)⟩)
  have m2 : makerT f y.dst = ((i1 : Int), (k1 : Int)) := maker_eq hone (mem_makings.2 ⟨i1, c, hc1, mem_mkBlk.2 (.inr ⟨k1, x1, hc2, e, rfl⟩)⟩)
  rw [m1] at m2
  simp only [Prod.mk.injEq] at m2
  omega
def keepI (r : Int → Int) (x : PInst) : Bool := !cntB x.op || decide (r x.dst = x.dst)
def numPh (r : Int → Int) (p : PPhi) : PPhi := ⟨p.dst, p.args.map r, p.from_⟩
def numTm (r : Int → Int) (t : PTerm) : PTerm := ⟨t.kind, if t.kind = 0 then t.var else r t.var, t.to0, t.to1⟩
def numB (r : Int → Int) (b : PBlock) : PBlock := ⟨b.name, b.phis.map (numPh r), (b.insts.filter (keepI r)).map (mapI r), numTm r b.term⟩
def numF (f : PFunc) (r : Int → Int) : PFunc := ⟨f.vars, f.params, f.blocks.map (numB r)⟩
def putT (y x v : Int) : Int := if v = y then x else v
def putTm (y x : Int) (t : PTerm) : PTerm := ⟨t.kind, if t.kind ≠ 0 ∧ t.var = y then x else t.var, t.to0, t.to1⟩
def putB (y x : Int) (b : PBlock) : PBlock := ⟨b.name, (b.phis.filter fun p => decide (p.dst ≠ y)).map (numPh (putT y x)), (b.insts.filter fun z => decide (z.dst ≠ y)).map (mapI (putT y x)), putTm y x b.term⟩
def putF (f : PFunc) (y x : Int) : PFunc := ⟨f.vars, f.params, f.blocks.map (putB y x)⟩
theorem put_num {f : PFunc} {r : Int → Int} {y x : Int} (hx : r x = x) (hy : r y = y) (hne : x ≠ y) (hph : ∀ b ∈ f.blocks, ∀ p ∈ b.phis, p.dst ≠ y) (hin : ∀ b ∈ f.blocks, ∀ z ∈ b.insts, z.dst = y → cntB z.op = true) :
  putF (numF f r) y x = numF f fun v => putT y x (r v) := by
 unfold putF numF
 simp only [List.map_map]
 congr 1
 refine List.map_congr_left fun b hb => ?_
 show putB y x (numB r b) = numB _ b
 unfold putB numB
 have e1 : (b.phis.map (numPh r)).filter (fun p => decide (p.dst ≠ y)) = b.phis.map (numPh r) := List.filter_eq_self.2 fun p hp => by
  obtain ⟨q, hq, rfl⟩ := List.mem_map.1 hp
  exact qp (hph b hb q hq)
 have e2 : ((b.insts.filter (keepI r)).map (mapI r)).filter (fun z => decide (z.dst ≠ y)) = (b.insts.filter (keepI fun v => putT y x (r v))).map (mapI r) := by
  rw [List.filter_map, List.filter_filter]
  congr 1
  refine List.filter_congr fun z hz => ?_
  show (decide (z.dst ≠ y) && keepI r z) = keepI _ z
  unfold keepI putT
  by_cases hc : cntB z.op = true
  ·rw [hc]
   simp only [Bool.not_true, Bool.false_or]
   rw [← Bool.decide_and]
   refine decide_eq_decide.2 ⟨fun ⟨h1, h2⟩ => by rw [h2, if_neg h1], fun h=>?_⟩
   by_cases e : r z.dst = y
   ·rw [if_pos e] at h
    rw [← h, hx] at e
    exact absurd e hne
   ·rw [if_neg e] at h
    exact ⟨fun e2 => e (by rw [e2]; exact hy), h⟩
  ·have hz2 : z.dst ≠ y := fun e => hc (hin b hb z hz e)
   rw [qp hz2, show cntB z.op = false by simpa using hc]; rfl
 rw [e1, e2]
 simp only [List.map_map]
 congr 1
 ·refine List.map_congr_left fun p _ => ?_
  show numPh _ (numPh r p) = _
  unfold numPh; simp only [List.map_map]; rfl
 ·refine List.map_congr_left fun z _ => ?_
  show mapI _ (mapI r z) = _
  unfold mapI; simp only [List.map_map]; rfl
 ·unfold putTm numTm putT
  by_cases h : b.term.kind = 0
  ·simp [h]
  ·simp [h]
theorem num_id (f : PFunc) : numF f id = f := by
 unfold numF
 have : f.blocks.map (numB id) = f.blocks := by
  conv => rhs; rw [← List.map_id f.blocks]
  refine List.map_congr_left fun b _ => ?_
  unfold numB
  have e1 : b.phis.map (numPh id) = b.phis := by
   conv => rhs; rw [← List.map_id b.phis]
   refine List.map_congr_left fun p _ => ?_
   unfold numPh; rw [List.map_id]; rfl
  have e2 : (b.insts.filter (keepI id)).map (mapI id) = b.insts := by
   rw [List.filter_eq_self.2 (fun x _ => by unfold keepI; simp)]
   conv => rhs; rw [← List.map_id b.insts]
   refine List.map_congr_left fun p _ => ?_
   unfold mapI; rw [List.map_id]; rfl
  rw [e1, e2]
  unfold numTm
  simp
 rw [this]
structure Half (f : PFunc) (r : Int → Int) : Prop where
 id : ∀ v, (∀ i k x, NumI f i k x → x.dst ≠ v) → r v = v
 rt : ∀ i k y, NumI f i k y → r y.dst = y.dst ∨ ∃ i' k' x, NumI f i' k' x ∧ AheadI f i' k' i k ∧ r x.dst = x.dst ∧ r y.dst = x.dst ∧ sameI (mapI r x) (mapI r y) = true
theorem Half.first (f : PFunc) : Half f _root_.id := ⟨fun _ _ => rfl, fun _ _ _ _ => .inl rfl⟩
theorem mapI_put (r : Int → Int) (y x : Int) (z : PInst) : mapI (fun v => putT y x (r v)) z = mapI (putT y x) (mapI r z) := by unfold mapI; simp only [List.map_map]; rfl
theorem Half.step {f : PFunc} {rk : Nat → Nat → Nat} (hH : NumH f rk) {r : Int → Int} (h : Half f r) {i k : Nat} {y : PInst} {i' k' : Nat} {x : PInst} (hy : NumI f i k y) (hx : NumI f i' k' x) (ha : AheadI f i' k' i k) (rx : r x.dst = x.dst) (ry : r y.dst = y.dst) (hs : sameI (mapI r x) (mapI r y) = true) :
  Half f fun v => putT y.dst x.dst (r v) := by
 have hne : x.dst ≠ y.dst := fun e => by
  obtain ⟨rfl, rfl⟩ := hH.made _ _ _ _ _ _ hy hx e
  have := hH.less _ _ _ _ _ _ hy hx ha
  omega
 have px : putT y.dst x.dst (r x.dst) = x.dst := by rw [rx]; unfold putT; rw [if_neg hne]
 refine ⟨fun v hv => ?_, fun i2 k2 z hz => ?_⟩
 ·show putT y.dst x.dst (r v) = v
  rw [h.id v hv]; unfold putT; rw [if_neg (fun e => hv _ _ _ hy e.symm)]
 ·rcases h.rt i2 k2 z hz with h0 | ⟨i3, k3, u, hu, au, ru, ez, su⟩
  ·by_cases e : z.dst = y.dst
   ·right
    obtain ⟨rfl, rfl⟩ := hH.made _ _ _ _ _ _ hy hz e
    have : z = y := hz.1.one hy.1
    subst this
    refine ⟨i', k', x, hx, ha, px, ?_, ?_⟩
    ·show putT z.dst x.dst (r z.dst) = x.dst
     rw [ry]; unfold putT; rw [if_pos rfl]
    ·rw [mapI_put r z.dst x.dst x, mapI_put r z.dst x.dst z]; exact sameI_map _ hs
   ·left
    show putT y.dst x.dst (r z.dst) = z.dst
    rw [h0]; unfold putT; rw [if_neg e]
  ·right
   by_cases e : u.dst = y.dst
   ·obtain ⟨rfl, rfl⟩ := hH.made _ _ _ _ _ _ hy hu e
    have : u = y := hu.1.one hy.1
    subst this
    refine ⟨i', k', x, hx, hH.trans _ _ _ _ _ _ _ _ _ hz hx hu ha au, px, ?_, ?_⟩
    ·show putT u.dst x.dst (r z.dst) = x.dst
     rw [ez]; unfold putT; rw [if_pos rfl]
    ·rw [mapI_put r u.dst x.dst x, mapI_put r u.dst x.dst z]; exact sameI_map _ (sameI_trans hs su)
   ·refine ⟨i3, k3, u, hu, au, ?_, ?_, ?_⟩
    ·show putT y.dst x.dst (r u.dst) = u.dst
     rw [ru]; unfold putT; rw [if_neg e]
    ·show putT y.dst x.dst (r z.dst) = u.dst
     rw [ez]; unfold putT; rw [if_neg e]
    ·rw [mapI_put r y.dst x.dst u, mapI_put r y.dst x.dst z]; exact sameI_map _ su
end Go.Proofs.YtiojekbkamegdaaGreatDoor
namespace Go.Proofs.YtiojekbkamegdaaGreatDoor
section
variable {E : World} {P : Program} {env : AEnv} {O : OL} {d ty : Nat} {pos : String} {af : Array Edge} {x y : Operand} {t u e : TypeId}
theorem Gv.conv {k k' : IntKind} {a : Int} {ds : TypeDesc} {src dst : TypeId} (hs : P.underlying src = some ds) (hd : P.underlying dst = some (.int k')) (hx : aev env x = .int k a) : Gv P env O (Oper.mk (some d) (.convert src dst x) ty pos af none) (.int k' (k'.wrap a)) := q9 fun I ρ h => ⟨_, rfl, fun w => by
 simp only [execOp, evI h hx]
 cases ds <;> simp [convert, run_underlying hs, run_underlying hd, Conv.intToInt]⟩
end
end Go.Proofs.YtiojekbkamegdaaGreatDoor
namespace Go.Proofs.YtiojekbkamegdaaGreatDoor
section
variable {E : World} {P : Program} {n : Nat} {l : List Oper} {W : Nat → Bool} {Q : AEnv → OL → Prop} {fuel : Nat} {listed : Array Bool} {env : AEnv} {O Os Om : OL}
theorem AAny.two {i j : Nat} {o o' : Oper} (hi : l[i]? = some o) (hj : l[j]? = some o') (hr : Region.ready .any l.toArray listed = [i, j])
  (h : AOps P E l.toArray (fun env' Om' => AAny P E l W Q fuel (listed.setIfInBounds i true) env' Os Om') [o] env Om)
  (h' : AOps P E l.toArray (fun env' Om' => AAny P E l W Q fuel (listed.setIfInBounds j true) env' Os Om') [o'] env Om) : AAny P E l W Q (fuel + 1) listed env Os Om := fun I F ρ w Ls h1 hLs h2 => by
 have key : ∀ k ok, AOps P E l.toArray (fun env' Om' => AAny P E l W Q fuel (listed.setIfInBounds k true) env' Os Om') [ok] env Om →
   Ops P l.toArray (fun ρ' w' => (stays I.k [] E w' ∧ (dirty W (listed.setIfInBounds k true) ∨ stays I.k Ls E w')) ∧ AnyV P l.toArray (stays I.k [] E) (stays I.k Ls E) W (postK I F E Q) fuel (listed.setIfInBounds k true) ρ' w') [ok] ρ w := fun k ok h =>
  yq (fun ρ' w' ⟨J, env', Om', a, b, c, d⟩ => by
   have hst : stays I.k Ls E w' := by
    obtain ⟨J', L', h3, h4, h5⟩ := c.here
    exact ⟨J', L', a.k.trans h3, h4, h5⟩
   refine ⟨⟨hst.less, .inr hst⟩, AnyV.mono ?_ ?_ (fun _ _ => yz a) _ _ _ _ (d J F ρ' w' Ls b (hLs.mono a) c)⟩
   ·rintro w ⟨J', L', h3, h4⟩; exact ⟨J', L', a.k.trans h3, h4⟩
   ·rintro w ⟨J', L', h3, h4⟩; exact ⟨J', L', a.k.trans h3, h4⟩) _ _ _ (h I (Ls ++ F) ρ w h1 h2)
 refine ⟨fun h0 => (by rw [hr] at h0; cases h0), fun k hk o2 ho2 => ?_⟩
 rw [hr] at hk
 simp only [List.mem_cons, List.not_mem_nil, or_false] at hk
 rw [List.getElem?_toArray] at ho2
 rcases hk with rfl | rfl
 ·rw [hi] at ho2; cases ho2; exact key _ _ h
 ·rw [hj] at ho2; cases ho2; exact key _ _ h'
end
end Go.Proofs.YtiojekbkamegdaaGreatDoor
namespace Go.Proofs.YtiojekbkamegdaaGreatDoor
section
variable {E : World} {P : Program} {n : Nat} {l : List Oper} {W : Nat → Bool} {Q : AEnv → OL → Prop} {fuel : Nat} {listed : Array Bool} {env : AEnv} {O Os Om : OL}
theorem AAny.three {i j m : Nat} {o o' o'' : Oper} (hi : l[i]? = some o) (hj : l[j]? = some o') (hm : l[m]? = some o'') (hr : Region.ready .any l.toArray listed = [i, j, m])
  (h : AOps P E l.toArray (fun env' Om' => AAny P E l W Q fuel (listed.setIfInBounds i true) env' Os Om') [o] env Om)
  (h' : AOps P E l.toArray (fun env' Om' => AAny P E l W Q fuel (listed.setIfInBounds j true) env' Os Om') [o'] env Om)
  (h'' : AOps P E l.toArray (fun env' Om' => AAny P E l W Q fuel (listed.setIfInBounds m true) env' Os Om') [o''] env Om) : AAny P E l W Q (fuel + 1) listed env Os Om := fun I F ρ w Ls h1 hLs h2 => by
 have key : ∀ k ok, AOps P E l.toArray (fun env' Om' => AAny P E l W Q fuel (listed.setIfInBounds k true) env' Os Om') [ok] env Om →
   Ops P l.toArray (fun ρ' w' => (stays I.k [] E w' ∧ (dirty W (listed.setIfInBounds k true) ∨ stays I.k Ls E w')) ∧ AnyV P l.toArray (stays I.k [] E) (stays I.k Ls E) W (postK I F E Q) fuel (listed.setIfInBounds k true) ρ' w') [ok] ρ w := fun k ok h =>
  yq (fun ρ' w' ⟨J, env', Om', a, b, c, d⟩ => by
   have hst : stays I.k Ls E w' := by
    obtain ⟨J', L', h3, h4, h5⟩ := c.here
    exact ⟨J', L', a.k.trans h3, h4, h5⟩
   refine ⟨⟨hst.less, .inr hst⟩, AnyV.mono ?_ ?_ (fun _ _ => yz a) _ _ _ _ (d J F ρ' w' Ls b (hLs.mono a) c)⟩
   ·rintro w ⟨J', L', h3, h4⟩; exact ⟨J', L', a.k.trans h3, h4⟩
   ·rintro w ⟨J', L', h3, h4⟩; exact ⟨J', L', a.k.trans h3, h4⟩) _ _ _ (h I (Ls ++ F) ρ w h1 h2)
 refine ⟨fun h0 => (by rw [hr] at h0; cases h0), fun k hk o2 ho2 => ?_⟩
 rw [hr] at hk
 simp only [List.mem_cons, List.not_mem_nil, or_false] at hk
 rw [List.getElem?_toArray] at ho2
 rcases hk with rfl | rfl | rfl
 ·rw [hi] at ho2; cases ho2; exact key _ _ h
 ·rw [hj] at ho2; cases ho2; exact key _ _ h'
 ·rw [hm] at ho2; cases ho2; exact key _ _ h''
end
theorem ACall.know {E : World} {P : Program} {f : FuncId} {as0 : List AV} {O : OL} {R R' : AV → OL → Prop} (h : ACall P E f as0 O R) (hr : ∀ I F w v x O', R x O' → RepV I x v → SLA I O' F E w → ∃ J y O'', I.le J ∧ RepV J y v ∧ SLA J O'' F E w ∧ R' y O'') : ACall P E f as0 O R' := fun I F w vs h1 h2 =>
 (h I F w vs h1 h2).mono fun v w' ⟨J, x, O', a, b, c, d⟩ => by
  obtain ⟨K, y, O'', e1, e2, e3, e4⟩ := hr J F w' v x O' d b c
  exact ⟨K, y, O'', a.trans e1, e2, e3, e4⟩
theorem Put.has {O O' : OL} {i : Nat} {o o' : AObj} (h : Put O i o o' O') : Has O i o := by
 induction h with
 | head => exact .head
 | tail _ ih => exact ih.tail
end Go.Proofs.YtiojekbkamegdaaGreatDoor
namespace Go.Proofs.YtiojekbkamegdaaGreatDoor
theorem Pick.perm {O O' : OL} {i : Nat} {o : AObj} (h : Pick O i o O') : O.Perm ((i, o) :: O') := by
 induction h with
 | head => exact .refl _
 | tail _ ih => exact (ih.cons _).trans (.swap _ _ _)
section
variable {E : World} {P : Program} {f : FuncId} {as0 : List AV} {O : OL}
theorem ACall.exact {γ : Type} {x : γ → AV} {M : γ → OL} {p : γ → Prop} (h : ACall P E f as0 O (fun y O' => ∃ g, y = x g ∧ Left O' (M g) ∧ p g)) : ACall P E f as0 O (fun y O' => ∃ g, y = x g ∧ O' = M g ∧ p g) :=
 h.know fun I F w v y O' ⟨g, e, hl, hp⟩ h1 h2 => ⟨I, y, M g, .refl _, h1, hl.sla h2, g, e, rfl, hp⟩
theorem ACall.frozen {k m : Nat} {T : TypeId} {rows : List (List AV)} (h : ACall P E f as0 [] (fun y O' => ∃ i : Nat, y = .own i m ∧ Left O' [(i, .grow k T rows.flatten)] ∧ True)) (hk : ∀ r ∈ rows, r.length = k) (hk0 : 0 < k) (hm : rows.length = m) : AFun P E f as0 (.fro k rows) :=
 h.know fun I F w v y O' ⟨i, e, hl, _⟩ h1 h2 => by
  subst e
  obtain ⟨J, h3, h4, h5⟩ := Go.Proofs.YtiojekbkamegdaaGreatDoor.know .head hk hk0 hm (hl.sla h2)
  exact ⟨J, _, [], h3, h5 _ h1, h4, rfl⟩
end
end Go.Proofs.YtiojekbkamegdaaGreatDoor
namespace Go.Proofs.YtiojekbkamegdaaGreatDoor
open Go.ChangeShapes Go.WideShapes Go.ChangeAt Go.RowKit Go.Deep
def full (W : World) : Ghost := fun b => W.heap[b]?
theorem full_sl (W : World) : SL (full W) [] W W := ⟨rfl, rfl, rfl, fun _ _ h => h, by simp, by simp, by simp, fun _ _ h => h, (fun _ _ h h2 => by rw [show W.heap[_]? = some _ from h] at h2; cases h2), by simp⟩
def I0 (W : World) : G := ⟨full W, fun _ => none⟩
theorem cell_known {W : World} {p : Addr} {v : Value} (h : W.cell? p = some v) : p = ⟨p.block, p.off, none⟩ ∧ KAt (full W) p.block p.off v := by
 unfold World.cell? at h
 split at h
 ·rename_i c t f hb
  split at h
  ·cases h
  ·rename_i hs
   have : p.spot = none := by simpa using hs
   obtain ⟨b, o, s⟩ := p
   simp only at this
   subst this
   exact ⟨rfl, ⟨c, t, f, hb, h⟩⟩
 ·cases h
def Dec (P : Program) (W : World) (T : TypeId) {α : Type} (enc : α → List AV) (ok : α → Prop) : Prop :=
 ∀ {H : Type} (e : TypeId × Value → H) (held : Bool) (fuel : Nat) (cs : List Value) (x : DataW H × List MemPlace), DataW.trod e P W 0 (fun _ => true) held fuel T cs = some x → ∃ a, ok a ∧ RepL (I0 W) (enc a) cs
section
variable {P : Program} {W : World} {T e : TypeId}
theorem Dec.int {k : IntKind} (hu : P.underlying T = some (.int k)) : Dec P W T (fun x : Int => [.int k x]) (fun x => (Lit.int k x).wf = true) := fun _ _ _ _ _ h => by
 obtain ⟨n, rfl, _, hw⟩ := DataW.trod_int hu h
 exact ⟨n, hw, _, _, rfl, rfl, rfl⟩
theorem Dec.bool (hu : P.underlying T = some .bool) : Dec P W T (fun x : Bool => [.bool x]) (fun _ => True) := fun _ _ _ _ _ h => by
 obtain ⟨n, rfl, _⟩ := DataW.trod_bool hu h
 exact ⟨n, trivial, _, _, rfl, rfl, rfl⟩
theorem Dec.str (hu : P.underlying T = some .string) : Dec P W T (fun x : ByteArray => [.str x]) (fun x => x.size ≤ maxLen) := fun _ _ _ _ _ h => by
 obtain ⟨n, rfl, _, hw⟩ := DataW.trod_string hu h
 exact ⟨n, hw, _, _, rfl, rfl, rfl⟩
theorem Dec.slice {α : Type} {enc : α → List AV} {ok : α → Prop} {k : Nat} (ht : P.underlying T = some (.slice e)) (he : Dec P W e enc ok) (hk : P.cellsOf e = k) (hk0 : 0 < k) :
  Dec P W T (fun xs : List α => [.fro k (xs.map enc)]) (fun xs => (∀ x ∈ xs, ok x) ∧ xs.length ≤ maxLen) := fun en held fuel cs x h => by
 rcases open_slice ht h with ⟨rfl, _⟩ | ⟨a, len, cap, m, n, D, Pl, rfl, _, hl, hc, hm, _, hr⟩
 ·exact ⟨[], ⟨by simp, qg _⟩, _, _, rfl, ⟨none, 0, 0, rfl, rfl, Nat.le_refl _, fun _ => rfl, trivial⟩, rfl⟩
 ·simp only [if_true] at hm
  have each : ∀ i, i < len → ∃ y : α, ok y ∧ ∃ vs : List Value, vs.length = k ∧ RepL (I0 W) (enc y) vs ∧ ∀ j (u : Value), vs[j]? = some u → W.cell? (a.add (i * k + j)) = some u := by
   intro i hi
   obtain ⟨cs, h1, h2⟩ := hr i (by omega)
   rw [hk] at h1
   obtain ⟨_, hcl, hat⟩ := World.cells?_some h1
   obtain ⟨y, hy, hrep⟩ := he en held n cs _ h2
   refine ⟨y, hy, cs, hcl, hrep, fun j u hu => ?_⟩
   have hj : j < k := by have := (List.getElem?_eq_some_iff.1 hu).1; omega
   have := hat j hj
   rw [Go.Deep.add_add] at this
   rw [this, hu]
  by_cases h0 : len = 0
  ·subst h0
   exact ⟨[], ⟨by simp, qg _⟩, _, _, rfl, ⟨some a, 0, cap, rfl, rfl, qg _, fun h => by (cases h), trivial⟩, rfl⟩
  ·obtain ⟨y0, _⟩ := each 0 (by omega)
   have : Inhabited α := ⟨y0⟩
   obtain ⟨Y, hY⟩ := choose_lt each
   have ha : a = ⟨a.block, a.off, none⟩ := by
    obtain ⟨_, vs, hvl, _, hat⟩ := hY 0 (by omega)
    have := hat 0 _ (qd (show 0 < vs.length by omega))
    rw [Nat.zero_mul] at this
    exact (cell_known (by simpa [Addr.add] using this)).1
   refine ⟨(List.range len).map Y, ⟨?_, by simp; omega⟩, _, _, Z, ⟨some a, len, cap, Z, by simp, hl, fun h => by (cases h), RepR.intro fun j r hj => ?_⟩, Z⟩
   ·intro x hx
    obtain ⟨i, hi, rfl⟩ := List.mem_map.1 hx
    exact (hY i (by simpa using hi)).1
   ·rw [ql, ql] at hj
    have hjl : j < len := by
     rcases Nat.lt_or_ge j len with h | h
     ·exact h
     ·rw [List.getElem?_eq_none (by simpa using h)] at hj; cases hj
    rw [List.getElem?_range hjl] at hj
    simp only [Option.map_some, Option.some.injEq] at hj
    subst hj
    obtain ⟨_, vs, hvl, hrep, hat⟩ := hY j hjl
    refine ⟨a.block, a.off, vs, by rw [← ha], hvl, hrep, fun i u hu => ?_⟩
    have := hat i u hu
    rw [ha, addr_add] at this
    have := (cell_known this).2
    rw [Nat.zero_add, Nat.add_assoc]; exact this
theorem RepL.fld {I : G} {cs : List Value} {e es : List AV} {o k : Nat} (h1 : RepL I e ((cs.drop o).take k)) (h2 : RepL I es (cs.drop (o + k))) : RepL I (e ++ es) (cs.drop o) := by
 have := h1.append h2
 rwa [← List.drop_drop, List.take_append_drop] at this
theorem RepL.fin {I : G} {cs : List Value} {o : Nat} (h : cs.length = o) : RepL I [] (cs.drop o) := List.drop_eq_nil_of_le (by omega)
theorem Dec.at {α : Type} {enc : α → List AV} {ok : α → Prop} {f : Field} {H : Type} {en : TypeId × Value → H} {held : Bool} {n o k i : Nat} {cs : List Value} {xs : List (DataW H × List MemPlace)}
  (h1 : DataW.trod en P W 0 (fun _ => true) held n f.type ((cs.drop f.offset).take (P.cellsOf f.type)) = xs[i]?) (hd : Dec P W f.type enc ok) (h2 : i < xs.length) (ho : f.offset = o) (hk : P.cellsOf f.type = k) :
  ∃ a, ok a ∧ RepL (I0 W) (enc a) ((cs.drop o).take k) := by
 rw [qd h2, ho, hk] at h1
 exact hd en held n _ _ h1
theorem Dec.pair {α : Type} {enc : α → List AV} {ok : α → Prop} {k : Nat} (ht : P.underlying T = some (.array 2 e)) (he : Dec P W e enc ok) (hk : P.cellsOf e = k) (hT : P.cellsOf T = k + k) :
  Dec P W T (fun x : α × α => enc x.1 ++ enc x.2) (fun x => ok x.1 ∧ ok x.2) := fun en held fuel cs x h => by
 obtain ⟨xs, m, _, _, hl, hxl, hf⟩ := DataW.trod_array ht h
 have h0 := hf 0 (by omega)
 have h1 := hf 1 (by omega)
 rw [qd (by omega), hk] at h0 h1
 rw [Nat.zero_mul] at h0
 rw [Nat.one_mul] at h1
 obtain ⟨a, ha, ra⟩ := he en held m _ _ h0
 obtain ⟨b, hb, rb⟩ := he en held m _ _ h1
 refine ⟨(a, b), ⟨ha, hb⟩, ?_⟩
 have hcl : cs.length = k + k := by rw [hl, hT]
 have h2 : (cs.drop k).take k = cs.drop k := List.take_of_length_le (by rw [List.length_drop]; omega)
 rw [h2] at rb
 have := ra.append rb
 rw [List.drop_zero, List.take_append_drop] at this
 exact this
theorem Dec.map {α β : Type} {enc : α → List AV} {ok : α → Prop} {enc' : β → List AV} {ok' : β → Prop} (h : Dec P W T enc ok) (g : α → β) (he : ∀ a, enc' (g a) = enc a) (hk : ∀ a, ok a → ok' (g a)) : Dec P W T enc' ok' := fun en held fuel cs x hx => by
 obtain ⟨a, h1, h2⟩ := h en held fuel cs x hx
 exact ⟨g a, hk a h1, by rw [he]; exact h2⟩
end
theorem tabIs_of_reads {P : Program} {W : World} {name : String} {k : IntKind} {zs : List Int} {g : Nat} {t e : TypeId} {n : Nat}
  (hg : P.globalNamed name = some g) (hty : (P.globals[g]?).map (·.type) = some t) (ht : P.underlying t = some (.array n e)) (he : P.underlying e = some (.int k)) (hce : P.cellsOf e = 1) (hct : P.cellsOf t = n)
  (h : Lib.VarReads P W name (Lib.tabData k zs)) : Lib.TabIs P W name k zs := by
 obtain ⟨g', t', cs, fuel, p, hg', ht', hvar, hd⟩ := h
 obtain rfl := Option.some.inj (hg.symm.trans hg')
 obtain rfl := Option.some.inj (hty.symm.trans ht')
 unfold Lib.TabIs
 rw [hvar, ← Lib.cells_of_tab ht he hce hct hd]
theorem AFun.call {P : Program} {W : World} {f : FuncId} {us : List AV} {vs : List Value} {r : AV} (h : AFun P W f us r) (hr : RepL (I0 W) us vs) (hp : r.plain = true) : Calls P f vs.toArray W fun e w' => ∃ v, e = .returned v ∧ RepV (I0 W) r v ∧ Below W.heap.size W w' := by
 have := (h (I0 W) [] W vs hr ⟨⟨0, fun _ _ => rfl⟩, [], rfl, full_sl W⟩).2
 refine this.mono fun e w' ⟨v, he, J, x, O', hle, hx, hS, hxr⟩ => ⟨v, he, ?_, ?_⟩
 ·subst hxr; exact AV.plain_rep hp hx
 ·obtain ⟨_, L, _, hSL⟩ := hS
  exact hSL.belowE
end Go.Proofs.YtiojekbkamegdaaGreatDoor
namespace Go.Proofs.YtiojekbkamegdaaGreatDoor
def gdiff (J : Ghost) (E : World) : Ghost := fun b => match E.heap[b]? with
 | none => J b
 | some _ => none
theorem gdiff_some {J : Ghost} {E : World} {b : Nat} {o : Obj} (h : gdiff J E b = some o) : E.heap[b]? = none ∧ J b = some o := by
 unfold gdiff at h
 cases hE : E.heap[b]? with
 | none => rw [hE] at h; exact ⟨rfl, h⟩
 | some x => rw [hE] at h; cases h
theorem gdiff_le {I J : Ghost} (E : World) (h : I.le J) : (gdiff I E).le (gdiff J E) := fun b o hb => by
 obtain ⟨h1, h2⟩ := gdiff_some hb
 unfold gdiff
 rw [h1]; exact h _ _ h2
def GD (J : Ghost) (E : World) : G := ⟨gdiff J E, fun _ => none⟩
theorem GD.le {I J : Ghost} (E : World) (h : I.le J) : (GD I E).le (GD J E) := ⟨gdiff_le E h, fun _ _ h => by cases h⟩
def newv (E : World) (x : AV) : AV := .ext fun J v => RepV (GD J E) x v
theorem newv_rep {I : G} {E : World} {x : AV} {v : Value} (h : RepV I (newv E x) v) : RepV (GD I.k E) x v := h.2 _ (.refl _)
def Up (E : World) (xs ys : List AV) : Prop := ∀ (I : G) vs, RepL I xs vs → RepL (GD I.k E) ys vs
theorem Up.nil {E : World} : Up E [] [] := fun _ _ h => h
theorem Up.int {E : World} {k : IntKind} {n : Int} {xs ys : List AV} (h : Up E xs ys) : Up E (.int k n :: xs) (.int k n :: ys) := fun I _ ⟨v, us, e, h1, h2⟩ => ⟨v, us, e, h1, h I us h2⟩
theorem Up.str {E : World} {s : ByteArray} {xs ys : List AV} (h : Up E xs ys) : Up E (.str s :: xs) (.str s :: ys) := fun I _ ⟨v, us, e, h1, h2⟩ => ⟨v, us, e, h1, h I us h2⟩
theorem Up.new {E : World} {x : AV} {xs ys : List AV} (h : Up E xs ys) : Up E (newv E x :: xs) (x :: ys) := fun I _ ⟨v, us, e, h1, h2⟩ => ⟨v, us, e, newv_rep h1, h I us h2⟩
theorem Up.append {E : World} {a b c d : List AV} (h1 : Up E a c) (h2 : Up E b d) : Up E (a ++ b) (c ++ d) := fun I vs h => by
 have e1 := h.take a.length
 have e2 := h.drop a.length
 rw [List.take_left] at e1
 rw [List.drop_left] at e2
 have := (h1 I _ e1).append (h2 I _ e2)
 rwa [List.take_append_drop] at this
theorem Up.map {E : World} {α : Type} {enc enc' : α → List AV} (h : ∀ x, Up E (enc x) (enc' x)) : ∀ l : List α, Up E (l.map enc).flatten (l.map enc').flatten
 | [] => Up.nil
 | x :: l => by simpa using (h x).append (Up.map h l)
section
variable {E : World} {P : Program} {n : Nat} {env : AEnv} {O O' O'' : OL} {i k m : Nat} {T : TypeId} {rows rows' : List (List AV)}
end
section
variable {E : World} {P : Program} {f : FuncId} {us bs : List AV} {r : AV}
theorem RepL.imp {I J : G} {g h : AV → AV} (hi : ∀ c v, RepV I (g c) v → RepV J (h c) v) : ∀ (cs : List AV) (vs : List Value), RepL I (cs.map g) vs → RepL J (cs.map h) vs
 | [], _, e => e
 | _ :: cs, _, ⟨v, us, e, h1, h2⟩ => ⟨v, us, e, hi _ _ h1, RepL.imp hi cs us h2⟩
end
def TurnV (B : Nat) : Value → Value → Prop
 | .int k _, v' => ∃ n, v' = .int k n
 | .string s, v' => ∃ s', v' = .string s' ∧ s'.size ≤ s.size + B
 | v, v' => v' = v
def TurnO (B : Nat) : Obj → Obj → Prop
 | .cells c T _, o' => ∃ c' : Array Value, o' = .cells c' T (0, 0) ∧ c'.size = c.size ∧ ∀ (i : Nat) v, c[i]? = some v → ∃ v', c'[i]? = some v' ∧ TurnV B v v'
 | o, o' => o' = o
def Turned (B : Nat) : List (Nat × Obj) → List (Nat × Obj) → Prop
 | [], L' => L' = []
 | (b, o) :: L, L' => ∃ o' R, L' = (b, o') :: R ∧ TurnO B o o' ∧ Turned B L R
theorem TurnV.refl (B : Nat) (v : Value) : TurnV B v v := by
 cases v <;> first | exact rfl | exact ⟨_, rfl⟩ | exact ⟨_, rfl, Nat.le_add_right _ _⟩
theorem TurnV.more {B B' : Nat} (h : B ≤ B') {v v' : Value} (hv : TurnV B v v') : TurnV B' v v' := by
 cases v <;> first | exact hv | (obtain ⟨s', e, hs⟩ := hv; exact ⟨s', e, by omega⟩)
theorem TurnO.more {B B' : Nat} (h : B ≤ B') {v v' : Obj} (hv : TurnO B v v') : TurnO B' v v' := by
 cases v <;> first | exact hv | (obtain ⟨s', e, hs, h2⟩ := hv; exact ⟨s', e, hs, fun i v hi => let ⟨v', a, b⟩ := h2 i v hi; ⟨v', a, b.more h⟩⟩)
theorem Turned.more {B B' : Nat} (h : B ≤ B') : ∀ {L L' : List (Nat × Obj)}, Turned B L L' → Turned B' L L'
 | [], _, e => e
 | _ :: _, _, ⟨o', R, e, h1, h2⟩ => ⟨o', R, e, h1.more h, Turned.more h h2⟩
theorem Turned.refl (B : Nat) : ∀ {L : List (Nat × Obj)}, (∀ y ∈ L, flatO y.2) → Turned B L L
 | [], _ => rfl
 | (b, o) :: L, h => ⟨o, L, rfl, by
   have := h (b, o) (.head _)
   cases o <;> first | exact rfl | (have this : _ = (0, 0) := this; subst this; exact ⟨_, rfl, rfl, fun i v hv => ⟨v, hv, .refl _ _⟩⟩), Turned.refl B fun y hy => h y (.tail _ hy)⟩
theorem Turned.at {B : Nat} {b : Nat} {c : Array Value} {T : TypeId} {fz : Nat × Nat} : ∀ {L L' : List (Nat × Obj)}, Turned B L L' → L.lookup b = some (.cells c T fz) →
  ∃ c' X Y, L' = X ++ (b, .cells c' T (0, 0)) :: Y ∧ c'.size = c.size ∧ (∀ (i : Nat) v, c[i]? = some v → ∃ v', c'[i]? = some v' ∧ TurnV B v v') ∧
   ∀ B' (c'' : Array Value), B ≤ B' → c''.size = c.size → (∀ (i : Nat) v, c[i]? = some v → ∃ v', c''[i]? = some v' ∧ TurnV B' v v') → Turned B' L (X ++ (b, .cells c'' T (0, 0)) :: Y)
 | [], _, _, h => by cases h
 | (a, o) :: L, L', ⟨o', R, e, h1, h2⟩, h => by
  rw [List.lookup_cons] at h
  cases hb : b == a with
  | true =>
   rw [hb] at h
   cases h
   have hba : b = a := by simpa using hb
   subst hba
   obtain ⟨c', rfl, hs, hc⟩ := h1
   exact ⟨c', [], R, e, hs, hc, fun B' c'' hB hs' hc' => ⟨_, R, rfl, ⟨c'', rfl, hs', hc'⟩, h2.more hB⟩⟩
  | false =>
   rw [hb] at h
   obtain ⟨c', X, Y, rfl, hs, hc, hk⟩ := Turned.at h2 h
   exact ⟨c', (a, o') :: X, Y, e, hs, hc, fun B' c'' hB hs' hc' => ⟨o', _, rfl, h1.more hB, hk B' c'' hB hs' hc'⟩⟩
section
variable {E : World} {P : Program} {n : Nat} {ops : Array Oper} {K : AEnv → OL → Prop} {env : AEnv} {O O' : OL} {rest : List Oper}
variable {d ty : Nat} {pos : String} {af : Array Edge} {t e : TypeId} {x y : Operand} {L : List (Nat × Obj)}
theorem GStep.turn (hP : Put O 0 (.heap (fun L' => L' = L)) (.heap (Turned 0 L)) O') : GStep E env O env O' := fun I F ρ w h1 ⟨ht, L0, hL, hS⟩ => by
 obtain ⟨A, B, hp, hA, hback⟩ := hP.rep hL
 have hA : A = L := hA
 subst hA
 obtain ⟨L', h3, h4⟩ := hback (q4 I) (A' := A) (Turned.refl 0 fun y hy => hS.oflat y (List.mem_append_left _ (hp.mem_iff.2 (List.mem_append_left _ hy))))
 exact ⟨I, .refl _, h1, ht, L', h3, hS.perm ((h4.trans hp.symm).append_right F)⟩
end
end Go.Proofs.YtiojekbkamegdaaGreatDoor
namespace Go.Proofs.YtiojekbkamegdaaGreatDoor
section
variable {E : World} {P : Program} {n : Nat} {ops : Array Oper} {K : AEnv → OL → Prop} {env : AEnv} {O O' : OL} {rest : List Oper}
variable {d ty : Nat} {pos : String} {af : Array Edge} {t e : TypeId} {x y : Operand}
theorem RepR.drop {I : G} {k n c j : Nat} {a : Option Addr} {rows : List (List AV)} (hn : n = rows.length) (hnc : n ≤ c) (hr : RepR I k a 0 rows) : RepR I k (if c = j then a else a.map (·.add (j * k))) 0 (rows.drop j) :=
 RepR.intro fun j' r hj => by
  rw [List.getElem?_drop] at hj
  have hlt := (List.getElem?_eq_some_iff.1 hj).1
  obtain ⟨b, off, vs, rfl, h4, h5, h6⟩ := hr.get hj
  rw [if_neg (by omega)]
  refine ⟨b, off + j * k, vs, by simp [Addr.add], h4, h5, fun i u hu => ?_⟩
  have := h6 i u hu
  rw [Nat.zero_add, Nat.add_mul] at this
  rw [Nat.zero_add]
  rwa [← Nat.add_assoc] at this
theorem RepR.take {I : G} {k j : Nat} {a : Option Addr} {rows : List (List AV)} (hr : RepR I k a 0 rows) : RepR I k a 0 (rows.take j) :=
 RepR.intro fun j' r hj => by
  rw [List.getElem?_take] at hj
  split at hj
  ·exact hr.get hj
  ·cases hj
theorem Gv.cutLo {k j : Nat} {a : Int} {rows : List (List AV)} (ht : P.underlying t = some (.slice e)) (hs : ∀ w, (sizeOf e).run P w = .ok k w) (hx : aev env x = .fro k rows) (hy : aev env y = .int .i64 a) (hi : a = (j : Int)) (hj : j ≤ rows.length) :
  Gv P env O (Oper.mk (some d) (.slice t x (some y) none none) ty pos af none) (.fro k (rows.drop j)) := q9 fun I ρ h => by
 have h2 := h.ev x
 rw [hx] at h2
 obtain ⟨p, n, c, ex, hn, hnc, hnil, hr⟩ := h2
 have h3 := evI h hy
 subst hi
 refine ⟨.slice (if c = j then p else p.map (·.add (j * k))) (n - j) (c - j), ⟨_, _, _, Z, by rw [List.length_drop, hn], by omega, fun hp=>?_, hr.drop hn hnc⟩, fun w=>?_⟩
 ·split at hp
  ·omega
  ·cases p with
   | none => have := hnil rfl; omega
   | some q => cases hp
 ·have hjn : j ≤ n := by omega
  simp [execOp, Instr.sliceAt, Instr.slice, Instr.sliceBounds, Instr.sliceBound, asIntOf, Sem.run_bind, run_underlying ht, hs, ex, h3, hjn]
theorem Gv.cutLoM {α : Type} {enc : α → List AV} {xs : List α} {k j : Nat} {a : Int} (ht : P.underlying t = some (.slice e)) (hs : ∀ w, (sizeOf e).run P w = .ok k w) (hx : aev env x = .fro k (xs.map enc)) (hy : aev env y = .int .i64 a) (hi : a = (j : Int)) (hj : j ≤ xs.length) :
  Gv P env O (Oper.mk (some d) (.slice t x (some y) none none) ty pos af none) (.fro k ((xs.drop j).map enc)) := by
 have := Gv.cutLo (d := d) (ty := ty) (pos := pos) (af := af) (O := O) ht hs hx hy hi (by rwa [qk])
 rwa [← List.map_drop] at this
end
end Go.Proofs.YtiojekbkamegdaaGreatDoor
namespace Go.Proofs.YtiojekbkamegdaaGreatDoor
def mget (s : ByteArray) : List (ByteArray × Int) → Option Int
 | [] => none
 | (k, v) :: es => if s = k then some v else mget s es
def mset (s : ByteArray) (v : Int) : List (ByteArray × Int) → List (ByteArray × Int)
 | [] => [(s, v)]
 | (k, u) :: es => if s = k then (k, v) :: es else (k, u) :: mset s v es
def encME (p : ByteArray × Int) : Value × Value := (.string p.1, .int .i64 p.2)
def mapP (b : Nat) (es : List (ByteArray × Int)) (L : List (Nat × Obj)) : Prop := ∃ (arr : Array MapEntry) (clock : Nat), L = [(b, .map arr clock)] ∧ arr.toList.map (fun e => (e.key, e.val)) = es.map encME
def mapO (b : Nat) (es : List (ByteArray × Int)) : AObj := .heap (mapP b es)
def mref (b : Nat) : AV := .raw (.map (some b))
theorem findNow_none {s : ByteArray} : ∀ {l : List MapEntry} {es : List (ByteArray × Int)} {i : Nat}, l.map (fun e => (e.key, e.val)) = es.map encME → mget s es = none → Instr.findNow .string (.string s) l i = some none
 | [], [], _, _, _ => rfl
 | [], _ :: _, _, h, _ => by cases h
 | _ :: _, [], _, h, _ => by cases h
 | e :: l, (k, v) :: es, i, h, hg => by
  simp only [List.map_cons, List.cons.injEq, encME, Prod.mk.injEq] at h
  obtain ⟨⟨h1, _⟩, h2⟩ := h
  simp only [mget] at hg
  split at hg
  ·cases hg
  ·rename_i hne
   unfold Instr.findNow
   rw [h1]
   have : (s == k) = false := Bool.eq_false_iff.2 fun h => hne ((MapKept.bytes_beq s k).1 h)
   simp only [Instr.sameNow, this]
   exact findNow_none h2 hg
theorem findNow_some {s : ByteArray} {u : Int} : ∀ {l : List MapEntry} {es : List (ByteArray × Int)} {i : Nat}, l.map (fun e => (e.key, e.val)) = es.map encME → mget s es = some u →
  ∃ j, Instr.findNow .string (.string s) l i = some (some (i + j, .int .i64 u)) ∧ (∃ e, l[j]? = some e ∧ e.key = .string s) ∧ ∀ v, es.set j (s, v) = mset s v es
 | [], [], _, _, hg => by cases hg
 | [], _ :: _, _, h, _ => by cases h
 | _ :: _, [], _, h, _ => by cases h
 | e :: l, (k, v) :: es, i, h, hg => by
  simp only [List.map_cons, List.cons.injEq, encME, Prod.mk.injEq] at h
  obtain ⟨⟨h1, h3⟩, h2⟩ := h
  simp only [mget] at hg
  unfold Instr.findNow
  rw [h1]
  split at hg
  ·rename_i heq
   subst heq
   cases hg
   refine ⟨0, ?_, ⟨e, Z, h1⟩, fun v=>?_⟩
   ·have hss : (s == s) = true := (MapKept.bytes_beq s s).2 rfl
    simp only [Instr.sameNow, hss]
    rw [h3]; rfl
   ·simp [mset]
  ·rename_i hne
   have hb : (s == k) = false := Bool.eq_false_iff.2 fun h => hne ((MapKept.bytes_beq s k).1 h)
   obtain ⟨j, g1, g2, g3⟩ := findNow_some (i := i + 1) h2 hg
   refine ⟨j + 1, ?_, by simpa using g2, fun v=>?_⟩
   ·simp only [Instr.sameNow, hb, g1]
    congr 3; omega
   ·simp [mset, hne, g3]
section
variable {E : World} {P : Program} {n : Nat} {ops : Array Oper} {K : AEnv → OL → Prop} {env : AEnv} {O O' : OL} {rest : List Oper}
variable {d ty : Nat} {pos : String} {af : Array Edge} {t e kt : TypeId} {x y z : Operand} {b i : Nat} {es : List (ByteArray × Int)}
theorem AOps.makeMap (k : ∀ b, AOps P E ops K rest (aupd env d (mref b)) ((0, mapO b []) :: O)) : AOps P E ops K (Oper.mk (some d) (.makeMap t none) ty pos af none :: rest) env O := fun I F ρ w h1 ⟨ht, L, hL, hS⟩ => by
 refine q7 Z ?_
 unfold OpW
 have : (execOp (Go.Proofs.YtiojekbkamegdaaGreatDoor.ev ρ) (Oper.mk (some d) (.makeMap t none) ty pos af none)).run P w = .ok (.value (.map (some w.heap.size))) (w.alloc (.map #[] 0)) := by
  simp only [execOp, Option.map_none]
  rw [Sem.run_bind, run_makeMap_plain]; rfl
 rw [this]
 exact k w.heap.size I F _ _ (h1.upd d rfl) ⟨ht, (w.heap.size, .map #[] 0) :: L, ⟨[_], L, rfl, ⟨#[], 0, rfl, rfl⟩, hL⟩, hS.alloc _⟩
theorem map_in {I : G} {L : List (Nat × Obj)} (hO : Has O i (mapO b es)) (hL : RepOs I O L) : ∃ (arr : Array MapEntry) (clock : Nat), (b, Obj.map arr clock) ∈ L ∧ arr.toList.map (fun e => (e.key, e.val)) = es.map encME := by
 obtain ⟨O', hO⟩ := hO
 obtain ⟨A, B, hp, ⟨arr, clock, rfl, h2⟩, _⟩ := hO.rep hL
 exact ⟨arr, clock, hp.mem_iff.2 (by simp), h2⟩
theorem AOps.mapSet {s : ByteArray} {v : Int} (ht : P.underlying t = some (.map kt e)) (hk : P.underlying kt = some .string) (hx : aev env x = mref b) (hy : aev env y = .str s) (hz : aev env z = .int .i64 v) (hO : Put O i (mapO b es) (mapO b (mset s v es)) O')
  (k : AOps P E ops K rest env O') : AOps P E ops K (Oper.mk none (.mapUpdate t x y z) ty pos af none :: rest) env O := fun I F ρ w h1 ⟨htop, L, hL, hS⟩ => by
 have hx := evRaw h1 hx
 have hy := evT h1 hy
 have hz := evI h1 hz
 obtain ⟨A, B, hp, ⟨arr, clock, rfl, he⟩, hback⟩ := hO.rep hL
 have hS2 : SL I.k ((b, .map arr clock) :: (B ++ F)) E w := hS.perm ((hp.append_right F).symm)
 have hb := hS2.own _ (.head _)
 simp only at hb
 have hc : (Instr.checkKey false 10000 kt (.string s)).run P w = .ok () w := MapKept.run_checkKey (k := .string s) hk (by simp [MapKept.IsKey]) false 9999
 have fin : ∀ (arr' : Array MapEntry) (clock' : Nat), arr'.toList.map (fun e => (e.key, e.val)) = (mset s v es).map encME →
   (execOp (Go.Proofs.YtiojekbkamegdaaGreatDoor.ev ρ) (Oper.mk none (.mapUpdate t x y z) ty pos af none)).run P w = .ok .skip { w with heap := w.heap.setIfInBounds b (.map arr' clock') } → Ops P ops (postK I F E K) (Oper.mk none (.mapUpdate t x y z) ty pos af none :: rest) ρ w := fun arr' clock' he' hrun => by
  refine q7 Z ?_
  unfold OpW
  rw [hrun]
  obtain ⟨L', h7, h8⟩ := hback (q4 I) (A' := [(b, .map arr' clock')]) ⟨arr', clock', rfl, he'⟩
  have hh := MapKept.heap_set (o' := .map arr' clock') hb
  have hS3 : SL I.k ((b, .map arr' clock') :: (B ++ F)) E { w with heap := w.heap.setIfInBounds b (.map arr' clock') } := hS2.turn rfl rfl rfl hh.1 hh.2
  exact k I F ρ _ h1 ⟨htop, L', h7, hS3.perm (h8.append_right F)⟩
 cases hg : mget s es with
 | none =>
  have hf := findNow_none (i := 0) he hg
  refine fin (arr.push { key := .string s, val := .int .i64 v, born := clock }) (clock + 1) ?_ ?_
  ·have hset : ∀ es : List (ByteArray × Int), mget s es = none → mset s v es = es ++ [(s, v)] := fun es => by
    induction es with
    | nil => intro _; rfl
    | cons x es ih =>
     obtain ⟨k, u⟩ := x
     intro hg
     simp only [mget] at hg
     split at hg
     ·cases hg
     ·rename_i hne; simp [mset, hne, ih hg]
   rw [hset es hg]
   simp [he, encME]
  ·simp [execOp, hx, hy, hz, Instr.mapUpdate, run_underlying ht, MapKept.run_getObj_map hb, hc, MapKept.run_findKey hk hf, MapKept.run_setObj_map _ hb, Result.andThen]
 | some u =>
  obtain ⟨j, hf, ⟨e0, hj, hkey⟩, hset⟩ := findNow_some (i := 0) he hg
  rw [Nat.zero_add] at hf
  have hj' : arr[j]? = some e0 := by rw [← Array.getElem?_toList]; exact hj
  refine fin (arr.modify j fun e => { e with key := .string s, val := .int .i64 v }) clock ?_ ?_
  ·rw [← hset v, List.map_set]
   have hjl : j < arr.toList.length := (List.getElem?_eq_some_iff.1 hj).1
   have : (arr.modify j fun e => { e with key := .string s, val := .int .i64 v }).toList = arr.toList.set j { e0 with key := .string s, val := .int .i64 v } := by
    apply List.ext_getElem?
    intro q
    rw [Array.getElem?_toList, Array.getElem?_modify]
    by_cases hq : j = q
    ·subst hq
     rw [if_pos rfl, hj', List.getElem?_set_self hjl]; rfl
    ·rw [if_neg hq, List.getElem?_set_ne hq, Array.getElem?_toList]
   rw [this, List.map_set, he]; rfl
  ·have hkeep : (Instr.keyThatStays (.string s) (.string s)).run P w = .ok (.string s) w := by
    have hss : (s == s) = true := (MapKept.bytes_beq s s).2 rfl
    simp [Instr.keyThatStays, Instr.sameBits, hss]
   simp [execOp, hx, hy, hz, Instr.mapUpdate, run_underlying ht, MapKept.run_getObj_map hb, hc, MapKept.run_findKey hk hf, MapKept.run_setObj_map _ hb, Result.andThen, hj', hkey, hkeep]
end
end Go.Proofs.YtiojekbkamegdaaGreatDoor
namespace Go.Proofs.YtiojekbkamegdaaGreatDoor
section
variable {E : World} {P : Program} {n : Nat} {ops : Array Oper} {K : AEnv → OL → Prop} {env : AEnv} {O O' : OL} {rest : List Oper} {R : AV → OL → Prop}
variable {d ty : Nat} {pos : String} {af : Array Edge} {t e : TypeId} {x y : Operand}
theorem afin.c1t {t u T i : Nat} {T' : TypeId} {cs : List AV} {n : Nat} {y : AV} (hv : env t = .po i 0) (hu : env u = y) (hO : Has O i (.cells T' cs)) (ha : ∀ w, (isAgg T).run P w = .ok true w) (hs : ∀ w, (sizeOf T).run P w = .ok n w) (hn : cs.length = n) (h : R (.tup [.agg cs, y]) O) :
  afin P E #[.cell t T, .tmp u] R .ret env O := afin.of (x := .tup [.agg cs, y]) (fun I F ρ w h1 h2 => by
 obtain ⟨L, hL, hS⟩ := h2.2
 have h3 := h1 t
 rw [hv] at h3
 obtain ⟨b, c, e1, e⟩ := h3
 obtain ⟨b', c', vs, e2, h4, hm⟩ := hO.cells hL
 rw [e1] at e2; cases e2
 have hl := run_loadVar_agg (P := P) (w := w) (b := b) (off := 0) ha (cs := vs) (by rw [h4.length, hn]; exact hs) (fun j v hj => by
  rw [Nat.zero_add]
  exact hS.at_ (.inr ⟨_, _, _, List.mem_append_left _ hm, by rw [List.getElem?_toArray]; exact hj⟩))
 exact ⟨.tuple #[.agg vs.toArray, ρ u], by simp [resE, e, asAddr, hl], ⟨[_, _], rfl, _, _, rfl, ⟨vs, rfl, h4⟩, _, _, rfl, hu ▸ h1 u, rfl⟩⟩) h
end
end Go.Proofs.YtiojekbkamegdaaGreatDoor
namespace Go.Proofs.YtiojekbkamegdaaGreatDoor
section
variable {E : World} {P : Program} {env : AEnv} {O : OL} {d ty : Nat} {pos : String} {af : Array Edge} {x : Operand} {t u : TypeId}
end
end Go.Proofs.YtiojekbkamegdaaGreatDoor
namespace Go.Proofs.YtiojekbkamegdaaGreatDoor
section
variable {E : World} {P : Program} {ops : Array Oper} {K : AEnv → OL → Prop} {env : AEnv} {O O' O'' : OL} {rest : List Oper} {n : Nat}
variable {d ty : Nat} {pos : String} {af : Array Edge} {x y z : Operand} {t u e : TypeId}
theorem drop_last {A row : List AV} {j : Nat} {c : AV} (h : row[j]? = some c) : (A ++ row).drop (A.length + j) = c :: row.drop (j + 1) := by
 obtain ⟨hj, rfl⟩ := List.getElem?_eq_some_iff.1 h
 rw [List.drop_append, List.drop_eq_nil_of_le (by omega), Nat.add_sub_cancel_left, List.nil_append]
 exact List.drop_eq_getElem_cons hj
theorem Gv.loadL {i off j k : Nat} {T : TypeId} {c : AV} {A row : List AV} (ha : ∀ w, (isAgg t).run P w = .ok false w) (hx : aev env x = .po i off) (hoff : off = A.length + j) (hO : Has O i (.grow k T (A ++ row))) (hv : row[j]? = some c) :
  Gv P env O (Oper.mk (some d) (.load t x) ty pos af none) c := Gv.load1G ha hx hO (by subst hoff; exact drop_last hv)
theorem AOps.storeL {i off j m k : Nat} {T : TypeId} {v : AV} {A row l new : List AV} (hs : ∀ w, (sizeOf t).run P w = .ok m w) (hx : aev env x = .po i off) (hoff : off = A.length + j) (hy : aev env y = v) (hv : v.sto = true) (hl : v.cs = l) (hl1 : l.all AV.cell = true) (hn : l.length = m)
  (hO : Put O i (.grow k T (A ++ row)) (.grow k T (A ++ new)) O') (hb : Nat.ble (j + m) row.length = true) (hm : Nat.ble 1 m = true) (hnew : row.take j ++ l ++ row.drop (j + m) = new) (kk : AOps P E ops K rest env O') : AOps P E ops K (Oper.mk none (.store t x y) ty pos af none :: rest) env O :=
 AOps.storeG hs hx hy hv hl hl1 hn hO (by have := Nat.le_of_ble_eq_true hb; rw [qj]; omega) (Nat.le_of_ble_eq_true hm) (by
  have := Nat.le_of_ble_eq_true hb
  subst hoff hnew
  rw [List.take_append, List.take_of_length_le (by omega : A.length ≤ A.length + j), Nat.add_sub_cancel_left, List.drop_append, List.drop_eq_nil_of_le (by omega : A.length ≤ A.length + j + m), Nat.add_assoc, Nat.add_sub_cancel_left]
  simp) kk
theorem Gv.idxOL {i n k j r : Nat} {a : Int} {T : TypeId} {cs : List AV} (ht : P.underlying t = some (.slice e)) (hs : ∀ w, (sizeOf e).run P w = .ok k w) (hx : aev env x = .own i n) (hy : aev env y = .int .i64 a) (hi : a = (j : Int)) (hO : Has O i (.grow k T cs)) (hne : cs ≠ []) (hj : j < n) (hr : j * k = r) :
  Gv P env O (Oper.mk (some d) (.indexAddr t x y) ty pos af none) (.po i r) := hr ▸ Gv.idxO ht hs hx hy hi hO hne hj
theorem GStep.eq (h : O = O') : GStep E env O env O' := fun I F ρ w h1 h2 => ⟨I, .refl _, h1, h ▸ h2⟩
end
section
variable {P : Program} {E : World} {l : List Oper} {W : Nat → Bool} {fuel : Nat} {listed : Array Bool} {d ty : Nat} {op : Op} {pos : String} {af : Array Edge}
end
theorem GStep.knowP {E : World} {env : AEnv} {O O' : OL} {t i : Nat} {T : TypeId} {cs : List AV} (hv : env t = .po i 0) (hO : Pick O i (.cells T cs) O') : GStep E env O (aupd env t (.pf cs)) O' := fun I F ρ w h1 ⟨ht, L, hL, hS⟩ => by
 obtain ⟨A, B, hp, ⟨b, c, vs, e1, hvs, hvc, rfl⟩, hB⟩ := hO.rep hL
 simp only at e1
 have hS2 : SL I.k ((b, .cells vs.toArray T (0, 0)) :: (B ++ F)) E w := hS.perm ((hp.append_right F).symm)
 obtain ⟨hl, hS3⟩ := SL.freeze hS2
 let J : G := ⟨I.k.put b (.cells vs.toArray T (0, 0)), I.h⟩
 have hle : I.le J := ⟨hl, fun _ _ h => h⟩
 refine ⟨J, hle, fun s=>?_, ht, B, hB.mono hle, hS3⟩
 unfold aupd
 cases hb : Nat.beq s t with
 | false => exact q6 hle _ _ (h1 s)
 | true =>
  have : s = t := Nat.eq_of_beq_eq_true hb
  subst this
  have h2 := h1 s
  rw [hv] at h2
  obtain ⟨b2, c2, e2, e3⟩ := h2
  rw [e1] at e2
  simp only [Option.some.injEq, Prod.mk.injEq] at e2
  obtain ⟨rfl, rfl⟩ := e2
  exact ⟨b, 0, vs, e3, RepL.mono hle _ _ hvs, fun j u hj => ⟨_, _, _, Ghost.put_same _ _ _, by rw [Nat.zero_add, List.getElem?_toArray]; exact hj⟩⟩
end Go.Proofs.YtiojekbkamegdaaGreatDoor
namespace Go.Proofs.YtiojekbkamegdaaGreatDoor
section
variable {E : World} {P : Program} {ops : Array Oper} {K : AEnv → OL → Prop} {env : AEnv} {O O' : OL} {rest : List Oper}
variable {d ty : Nat} {pos : String} {af : Array Edge} {x y z : Operand} {t u e : TypeId}
end
end Go.Proofs.YtiojekbkamegdaaGreatDoor
namespace Go.Proofs.YtiojekbkamegdaaGreatDoor
section
variable {P : Program} {env : AEnv} {O : OL}
variable {d ty : Nat} {pos : String} {af : Array Edge} {x y : Operand}
theorem Gv.minI {ts : Array TypeId} {k : IntKind} {a b : Int} (hx : aev env x = .int k a) (hy : aev env y = .int k b) : Gv P env O (Oper.mk (some d) (.call { callee := .builtin .min, args := #[x, y], argTypes := ts }) ty pos af none) (.int k (if b < a then b else a)) := q9 fun I ρ h => ⟨_, rfl, fun w => by
 simp [execOp, resolve, evI h hx, evI h hy, invoke, builtin, Builtin.min_, Builtin.min2, Result.andThen]⟩
end
end Go.Proofs.YtiojekbkamegdaaGreatDoor
namespace Go.Proofs.YtiojekbkamegdaaGreatDoor
open Go.Lib
section
variable {P : Program} {ops : Array Oper} {K : Env → World → Prop} {ρ : Env} {w : World} {rest : List Oper}
variable {d ty : Nat} {pos : String} {af : Array Edge} {x y z : Operand} {t u e : TypeId}
variable {I : Ghost} {O A : List (Nat × Obj)} {E : World}
end
section
variable {E : World} {P : Program} {ops : Array Oper} {K : AEnv → OL → Prop} {env : AEnv} {O O' : OL} {rest : List Oper}
variable {d ty : Nat} {pos : String} {af : Array Edge} {x y z : Operand} {t u e : TypeId}
end
section
variable {E : World} {P : Program} {env : AEnv} {O : OL} {d ty : Nat} {pos : String} {af : Array Edge} {t e kt : TypeId} {x y : Operand} {b i : Nat} {es : List (ByteArray × Int)}
theorem Gv.lookup1S {s : ByteArray} (ht : P.underlying t = some (.map kt e)) (hk : P.underlying kt = some .string) (hz : ∀ w, (zeroValue e).run P w = .ok (.int .i64 0) w) (hx : aev env x = mref b) (hy : aev env y = .str s) (hO : Has O i (mapO b es)) :
  Gv P env O (Oper.mk (some d) (.lookup t x y false) ty pos af none) (.int .i64 ((mget s es).getD 0)) := fun I L E ρ h1 hL => by
 obtain ⟨arr, clock, hm, he⟩ := map_in hO hL
 have hx := evRaw h1 hx
 have hy := evT h1 hy
 refine ⟨.int .i64 ((mget s es).getD 0), Z, fun w J L' hl hS hin => ?_⟩
 have hb := hS.own _ (hin _ hm)
 simp only at hb
 have hc : (Instr.checkKey arr.isEmpty 10000 kt (.string s)).run P w = .ok () w := MapKept.run_checkKey (k := .string s) hk (by simp [MapKept.IsKey]) _ 9999
 cases hg : mget s es with
 | none =>
  have hf := findNow_none (i := 0) he hg
  simp [execOp, Instr.lookup, run_underlying ht, hx, hy, MapKept.run_getObj_map hb, hc, MapKept.run_findKey hk hf, hz, Result.andThen]
 | some u =>
  obtain ⟨j, hf, _⟩ := findNow_some (i := 0) he hg
  simp [execOp, Instr.lookup, run_underlying ht, hx, hy, MapKept.run_getObj_map hb, hc, MapKept.run_findKey hk hf, Result.andThen]
end
theorem mget_set (s v : ByteArray) (n : Int) : ∀ es : List (ByteArray × Int), mget s (mset v n es) = if s = v then some n else mget s es
 | [] => by simp only [mset, mget]
 | (k, u) :: es => by
  simp only [mset]
  split
  ·rename_i h; subst h; simp only [mget]; split <;> rfl
  ·rename_i h
   simp only [mget, mget_set s v n es]
   split
   ·rename_i h2; subst h2; rw [if_neg (fun e => h e.symm)]
   ·rfl
set_option linter.defProp false
def zc := @Pick.perm
def ye := @GStep.knowP
def yl := @AAny.two
def q3 := @RepL.fld
end Go.Proofs.YtiojekbkamegdaaGreatDoor
