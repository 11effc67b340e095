/- Go's library on slices of numbers: reversed, sorted, repeated. No conditions but bounds. -/
import Derived.Test.YtjnpcfpecilejaaGreatDoorZd
import Derived.Test.YtjnpcfpecilejaaGreatDoorZc
import Derived.Sort.Grow
import Derived.Laws.CopyRow
import Derived.Shelf.Small.Bits
import Derived.Shelf.Strconv.Itoa0
import Derived.Shelf.Sort.Plain
import Derived.Shelf.Unicode.Props
import Derived.Shelf.LaysM
import Derived.Shelf.Unicode.PropsLaid
import Derived.Shelf.Bits.Mul64
import Derived.Shelf.Unicode.Is16White
import Derived.Shelf.Unicode.IsSpaceAny
import Derived.Shelf.Unicode.Is16WhiteD
import Derived.Shelf.Unicode.Is16Any
import Derived.Shelf.Unicode.Is32Any
import Derived.Shelf.Unicode.ExclAny
import Derived.Shelf.Unicode.PredsAny
import Derived.Shelf.Unicode.PredsPay
import Derived.Shelf.Slices.Reverse
import Derived.Shelf.Slices.In.SortNone
import Derived.Test.YtjnpcfpecilejaaGreatDoorChecked
set_option linter.unusedVariables false
set_option linter.unusedSimpArgs false
set_option linter.unusedSectionVars false
namespace Go.Proofs.YtjnpcfpecilejaaGreatDoor
open Go.Proofs.Tryz
def intsTo (n : Nat) : List Int := (List.range n).map Int.ofNat
theorem intsTo_get {n k : Nat} (h : k < n) : (intsTo n)[k]? = some (k : Int) := by unfold intsTo; rw [ql, List.getElem?_range h]; rfl
theorem intsTo_len (n : Nat) : (intsTo n).length = n := by simp [intsTo]
theorem mem_intsTo {n : Nat} {x : Int} : x ∈ intsTo n ↔ 0 ≤ x ∧ x < n := by
 unfold intsTo
 rw [List.mem_map]
 constructor
 ·rintro ⟨k, hk, rfl⟩; have := List.mem_range.1 hk; exact ⟨Int.natCast_nonneg k, Int.ofNat_lt.2 this⟩
 ·rintro ⟨h0, h1⟩; exact ⟨x.toNat, List.mem_range.2 (by omega), Int.toNat_of_nonneg h0⟩
theorem intsTo_succ (n : Nat) : intsTo (n + 1) = intsTo n ++ [(n : Int)] := by unfold intsTo; rw [List.range_succ, List.map_append]; rfl
def predsT (E : Int → List Int) (n : Nat) (b : Int) : List Int := (intsTo n).flatMap fun i => ((E i).filter fun c => decide (c = b)).map fun _ => i
theorem mem_predsT {E : Int → List Int} {n : Nat} {b p : Int} (hE : EOk E n) (ho : ∀ x : Int, ¬ (0 ≤ x ∧ x < n) → E x = []) : p ∈ predsT E n b ↔ b ∈ E p := by
 unfold predsT
 rw [List.mem_flatMap]
 constructor
 ·rintro ⟨i, hi, h⟩
  obtain ⟨c, hc, rfl⟩ := List.mem_map.1 h
  obtain ⟨h1, h2⟩ := List.mem_filter.1 hc
  have h2 : c = b := by simpa using h2
  exact h2 ▸ h1
 ·intro h
  have hp : 0 ≤ p ∧ p < n := Classical.byContradiction fun hn => by rw [ho p hn] at h; cases h
  exact ⟨p, mem_intsTo.2 hp, List.mem_map.2 ⟨b, List.mem_filter.2 ⟨h, by simp⟩, rfl⟩⟩
theorem set_gi {l : List Int} {b : Int} (h0 : 0 ≤ b) (h : b.toNat < l.length) (m x : Int) : gi (l.set b.toNat m) x = if x = b then m else gi l x := by rw [gi_set h0 h]; rfl
theorem atOf_aux (n : Nat) : ∀ (W : List Int) (i : Nat) (l : List Int), l.length = n → W.Nodup → (∀ b ∈ W, 0 ≤ b ∧ b < n) →
  ((W.zipIdx i).foldl (fun l p => l.set p.1.toNat (p.2 : Int)) l).length = n ∧ (∀ (k : Nat) b, W[k]? = some b → gi ((W.zipIdx i).foldl (fun l p => l.set p.1.toNat (p.2 : Int)) l) b = ((i + k : Nat) : Int)) ∧
  ∀ b, b ∉ W → gi ((W.zipIdx i).foldl (fun l p => l.set p.1.toNat (p.2 : Int)) l) b = gi l b
 | [], i, l, hl, _, _ => ⟨hl, fun k b h => by simp at h, fun b _ => rfl⟩
 | v :: W, i, l, hl, hW, hr => by
  rw [List.zipIdx_cons, List.foldl_cons]
  rw [List.nodup_cons] at hW
  have hv := hr v (.head _)
  obtain ⟨g1, g2, g3⟩ := atOf_aux n W (i + 1) (l.set v.toNat (i : Int)) (by rw [List.length_set]; exact hl) hW.2 fun b hb => hr b (.tail _ hb)
  refine ⟨g1, fun k b h => ?_, fun b hb => ?_⟩
  ·cases k with
   | zero =>
    simp at h; subst h
    rw [g3 _ hW.1, set_gi hv.1 (by omega), if_pos rfl]; rfl
   | succ k =>
    rw [g2 k b (by simpa using h)]; omega
  ·rw [g3 b (fun h => hb (.tail _ h)), set_gi hv.1 (by omega), if_neg (fun e => hb (by rw [e]; exact .head _))]
theorem gi_rep (n : Nat) (x : Int) : gi (List.replicate n (-1)) x = -1 := by
 unfold gi; split
 ·rw [List.getElem?_replicate]; split <;> rfl
 ·rfl
structure Grph (E : Int → List Int) (n : Nat) : Prop extends EOk E n where
 out : ∀ x : Int, ¬ (0 ≤ x ∧ x < n) → E x = []
section
variable {E : Int → List Int} {n : Nat} (hE : Grph E n)
include hE
theorem at_row {k : Nat} {b : Int} (h : (orderT E n)[k]? = some b) : gi (atOf n (orderT E n)) b = k := by
 have := (atOf_aux n (orderT E n) 0 (List.replicate n (-1)) (by simp) (order_nodup hE.toEOk) fun b hb => order_rng hE.toEOk hb).2.1 k b h
 rw [Nat.zero_add] at this
 exact this
theorem at_none {b : Int} (h : b ∉ orderT E n) : gi (atOf n (orderT E n)) b = -1 := by
 have := (atOf_aux n (orderT E n) 0 (List.replicate n (-1)) (by simp) (order_nodup hE.toEOk) fun b hb => order_rng hE.toEOk hb).2.2 b h
 rw [gi_rep] at this
 exact this
theorem Grph.gok : GOk E (atOf n (orderT E n)) (orderT E n) (predsT E n) n := by
 have hpos : ∀ b, b ∈ orderT E n ↔ 0 ≤ gi (atOf n (orderT E n)) b := fun b => by
  constructor
  ·intro hb
   obtain ⟨k, hk, e⟩ := List.mem_iff_getElem.1 hb
   rw [at_row hE (k := k) (by rw [qd hk, e])]; omega
  ·intro h
   refine Classical.byContradiction fun hb => ?_
   rw [at_none hE hb] at h; omega
 refine ⟨⟨order_mem hE.toEOk, hpos, fun a b ha hb e => ?_, at_row hE (k := 0) (order_head hE.toEOk), fun b hb h0 => ?_, fun b hb => at_none hE hb, fun b hb => (order_rng hE.toEOk hb).1⟩, fun b hb => (order_rng hE.toEOk hb).2, fun k hk => ?_, fun b _ p => mem_predsT hE.toEOk hE.out⟩
 ·obtain ⟨j, hj, e1⟩ := List.mem_iff_getElem.1 ha
  obtain ⟨k, hk, e2⟩ := List.mem_iff_getElem.1 hb
  rw [at_row hE (k := j) (by rw [qd hj, e1]), at_row hE (k := k) (by rw [qd hk, e2])] at e
  have : j = k := by omega
  subst this
  rw [← e1, ← e2]
 ·obtain ⟨k, hk, e⟩ := List.mem_iff_getElem.1 hb
  obtain ⟨j, p, h1, h2, h3⟩ := order_led hE.toEOk k b (by rw [qd hk, e]) h0
  refine ⟨p, ?_, h3, ?_⟩
  ·obtain ⟨hj, e2⟩ := List.getElem?_eq_some_iff.1 h2
   exact e2 ▸ qh hj
  ·rw [at_row hE h2, at_row hE (k := k) (by rw [qd hk, e])]; omega
 ·rw [qd hk]
  exact at_row hE (qd hk)
end
def nearG (E : Int → List Int) (n : Nat) : List Int := nearT (atOf n (orderT E n)) (orderT E n) (predsT E n) n
theorem nearG_len (E : Int → List Int) (n : Nat) : (nearG E n).length = n := by unfold nearG nearT; rw [passN_len]; simp [first0]
def levS (N l : List Int) (b : Int) : List Int := l.set b.toNat (gi l (gi N b) + 1)
def levG (E : Int → List Int) (n : Nat) : List Int := (orderT E n).tail.foldl (levS (nearG E n)) (first0 n)
theorem levS_len (N l : List Int) (b : Int) : (levS N l b).length = l.length := by unfold levS; rw [List.length_set]
section
variable {E : Int → List Int} {n : Nat} (hE : Grph E n)
include hE
theorem Grph.exact : Exact E (gi (atOf n (orderT E n))) (orderT E n) (gi (nearG E n)) := hE.gok.near
theorem Grph.near_mem {b : Int} (hb : b ∈ orderT E n) (h0 : b ≠ 0) : gi (nearG E n) b ∈ orderT E n ∧ gi (atOf n (orderT E n)) (gi (nearG E n) b) < gi (atOf n (orderT E n)) b := by
 have := hE.exact.inv.near b h0 (hE.exact.has b hb)
 exact ⟨this.1, this.2.2⟩
structure LInv (E : Int → List Int) (n : Nat) (l : List Int) (k : Nat) : Prop where
 len : l.length = n
 zero : gi l 0 = 0
 row : ∀ b ∈ orderT E n, b ≠ 0 → gi (atOf n (orderT E n)) b < k → gi l b = gi l (gi (nearG E n) b) + 1 ∧ 0 ≤ gi l b
 none : ∀ b, (b ∈ orderT E n → (k : Int) ≤ gi (atOf n (orderT E n)) b) → b ≠ 0 → gi l b = -1
omit hE in
theorem first0_len (n : Nat) : (first0 n).length = n := by simp [first0]
theorem LInv.first : LInv E n (first0 n) 1 := by
 have hn := hE.npos
 refine ⟨first0_len n, by rw [first_gi hn]; rfl, fun b hb h0 hlt => ?_, fun b _ h0 => by rw [first_gi hn]; simp [h0]⟩
 have h1 := hE.gok.ord
 have : b = 0 := h1.inj b 0 hb h1.zmem (by rw [h1.zero]; have := (h1.pos b).1 hb; omega)
 exact absurd this h0
theorem LInv.step {l : List Int} {k : Nat} {b : Int} (hk : 0 < k) (hb : (orderT E n)[k]? = some b) (h : LInv E n l k) : LInv E n (levS (nearG E n) l b) (k + 1) := by
 have ho := hE.gok.ord
 obtain ⟨hk2, e⟩ := List.getElem?_eq_some_iff.1 hb
 have hbm : b ∈ orderT E n := e ▸ qh hk2
 have hat := at_row hE hb
 have hb0 : b ≠ 0 := fun e2 => by rw [e2, ho.zero] at hat; omega
 have hr := order_rng hE.toEOk hbm
 have hnr := hE.near_mem hbm hb0
 have hnb : gi (nearG E n) b ≠ b := fun e2 => by rw [e2] at hnr; omega
 have hlen := h.len
 have hst : ∀ x, gi (levS (nearG E n) l b) x = if x = b then gi l (gi (nearG E n) b) + 1 else gi l x := fun x => set_gi hr.1 (by omega) _ x
 refine ⟨by rw [levS_len]; exact h.len, by rw [hst, if_neg hb0.symm]; exact h.zero, fun x hx h0 hlt => ?_, fun x hx h0 => ?_⟩
 ·by_cases ex : x = b
  ·subst ex
   rw [hst, if_pos rfl, hst, if_neg hnb]
   refine ⟨rfl, ?_⟩
   by_cases hn0 : gi (nearG E n) x = 0
   ·rw [hn0, h.zero]; omega
   ·have := (h.row _ hnr.1 hn0 (by omega)).2; omega
  ·have hlt2 : gi (atOf n (orderT E n)) x < k := by
    have : gi (atOf n (orderT E n)) x ≠ gi (atOf n (orderT E n)) b := fun e2 => ex (ho.inj x b hx hbm e2)
    omega
   have hnx := hE.near_mem hx h0
   have hne : gi (nearG E n) x ≠ b := fun e2 => by rw [e2] at hnx; omega
   rw [hst, if_neg ex, hst, if_neg hne]
   exact h.row x hx h0 hlt2
 ·have ex : x ≠ b := fun e2 => by subst e2; have := hx hbm; omega
  rw [hst, if_neg ex]
  exact h.none x (fun hm => by have := hx hm; omega) h0
theorem LInv.fold : ∀ (bs : List Int) (k : Nat) (l : List Int), 0 < k → (orderT E n).drop k = bs → LInv E n l k → LInv E n (bs.foldl (levS (nearG E n)) l) (max k (orderT E n).length)
 | [], k, l, hk, hd, h => by
  have : (orderT E n).length ≤ k := by have := congrArg List.length hd; simp at this; omega
  rw [Nat.max_eq_left this]; exact h
 | b :: bs, k, l, hk, hd, h => by
  have hk2 : k < (orderT E n).length := by have := congrArg List.length hd; simp at this; omega
  have hb : (orderT E n)[k]? = some b := by have := congrArg (fun z : List Int => z[0]?) hd; simpa using this
  have := LInv.fold bs (k + 1) _ (by omega) (by rw [← List.drop_drop, hd]; rfl) (h.step hE hk hb)
  rw [List.foldl_cons]
  rwa [show max (k + 1) (orderT E n).length = max k (orderT E n).length by omega] at this
theorem Grph.lev : LInv E n (levG E n) (orderT E n).length := by
 have := LInv.fold hE (orderT E n).tail 1 _ (by omega) (by rw [List.drop_one]) (LInv.first hE)
 rwa [Nat.max_eq_right hE.gok.pos] at this
theorem Grph.at_lt {b : Int} (hb : b ∈ orderT E n) : gi (atOf n (orderT E n)) b < (orderT E n).length := by
 obtain ⟨k, hk, _, e⟩ := hE.gok.at_lt hb
 rw [e]; omega
theorem Grph.lev_near {b : Int} (hb : b ∈ orderT E n) (h0 : b ≠ 0) : gi (levG E n) b = gi (levG E n) (gi (nearG E n) b) + 1 := (hE.lev.row b hb h0 (hE.at_lt hb)).1
theorem Grph.lev_nn {b : Int} (hb : b ∈ orderT E n) : 0 ≤ gi (levG E n) b := by
 by_cases h0 : b = 0
 ·rw [h0, hE.lev.zero]; omega
 ·exact (hE.lev.row b hb h0 (hE.at_lt hb)).2
theorem Grph.lev_none {b : Int} (hb : b ∉ orderT E n) : gi (levG E n) b = -1 := hE.lev.none b (fun h => absurd h hb) (fun e => hb (by rw [e]; exact hE.gok.ord.zmem))
theorem Grph.lev_mem (b : Int) : gi (levG E n) b ≠ -1 ↔ b ∈ orderT E n := by
 refine ⟨fun h => Classical.byContradiction fun hb => h (hE.lev_none hb), fun hb h => ?_⟩
 have := hE.lev_nn hb; omega
theorem Grph.lev_anc {b a : Int} (hb : b ∈ orderT E n) (h : Anc (gi (nearG E n)) b a) : a ∈ orderT E n ∧ gi (levG E n) a ≤ gi (levG E n) b ∧ (gi (levG E n) b ≤ gi (levG E n) a → a = b) := by
 induction h with
 | refl b => exact ⟨hb, Int.le_refl _, fun _ => rfl⟩
 | @up x a h1 h2 h3 ih =>
  obtain ⟨g1, g2, g3⟩ := ih (hE.near_mem hb h1).1
  have := hE.lev_near hb h1
  exact ⟨g1, by omega, fun _ => by omega⟩
theorem Grph.dom_iff {a b : Int} (hb : b ∈ orderT E n) : Dom E a b ↔ Anc (gi (nearG E n)) b a := (hE.exact.anc b a hb).symm
end
def chainL (N : List Int) : Nat → Int → List Int
 | 0, _ => []
 | k + 1, b => b :: if b = 0 then [] else chainL N k (gi N b)
def domB (E : Int → List Int) (n : Nat) (a b : Int) : Bool := decide (gi (levG E n) b ≠ -1) && (chainL (nearG E n) n b).contains a
section
variable {E : Int → List Int} {n : Nat} (hE : Grph E n)
include hE
theorem chain_mem {a : Int} : ∀ (k : Nat) (b : Int), b ∈ orderT E n → gi (levG E n) b < k → (a ∈ chainL (nearG E n) k b ↔ Anc (gi (nearG E n)) b a)
 | 0, b, hb, hk => by have := hE.lev_nn hb; omega
 | k + 1, b, hb, hk => by
  unfold chainL
  rw [List.mem_cons]
  by_cases h0 : b = 0
  ·rw [if_pos h0]
   constructor
   ·rintro (h | h)
    ·subst h; exact .refl _
    ·cases h
   ·intro h
    rcases h.cases' with e | ⟨h1, _⟩
    ·exact .inl e
    ·exact absurd h0 h1
  ·rw [if_neg h0]
   have h1 := hE.near_mem hb h0
   have h2 := hE.lev_near hb h0
   rw [chain_mem k _ h1.1 (by omega)]
   constructor
   ·rintro (h | h)
    ·subst h; exact .refl _
    ·exact .up h0 (hE.exact.has b hb) h
   ·intro h
    rcases h.cases' with e | ⟨_, _, h3⟩
    ·exact .inl e
    ·exact .inr h3
theorem lev_lt {b : Int} (hb : b ∈ orderT E n) : gi (levG E n) b ≤ gi (atOf n (orderT E n)) b := by
 obtain ⟨k, hk⟩ : ∃ k : Nat, gi (atOf n (orderT E n)) b ≤ k := ⟨(gi (atOf n (orderT E n)) b).toNat, by omega⟩
 induction k generalizing b with
 | zero =>
  have ho := hE.gok.ord
  have : b = 0 := ho.inj b 0 hb ho.zmem (by rw [ho.zero]; have := (ho.pos b).1 hb; omega)
  rw [this, hE.lev.zero, ho.zero]; omega
 | succ k ih =>
  by_cases h0 : b = 0
  ·rw [h0, hE.lev.zero, hE.gok.ord.zero]; omega
  ·have h1 := hE.near_mem hb h0
   have h2 := hE.lev_near hb h0
   have := ih h1.1 (by omega)
   omega
omit hE in
theorem nodup_len : ∀ (l m : List Int), l.Nodup → (∀ x ∈ l, x ∈ m) → l.length ≤ m.length
 | [], _, _, _ => qg _
 | x :: l, m, h1, h2 => by
  rw [List.nodup_cons] at h1
  have hx := h2 x (.head _)
  have := nodup_len l (m.erase x) h1.2 fun y hy => (List.mem_erase_of_ne (fun e => h1.1 (by rw [← e]; exact hy))).2 (h2 y (.tail _ hy))
  have hp := List.length_pos_of_mem hx
  rw [List.length_erase_of_mem hx] at this
  rw [List.length_cons]; omega
theorem order_len : (orderT E n).length ≤ n := by
 have h1 := order_nodup hE.toEOk
 have h2 : ∀ x ∈ orderT E n, x ∈ intsTo n := fun x hx => mem_intsTo.2 (order_rng hE.toEOk hx)
 have := nodup_len _ _ h1 h2
 rwa [intsTo_len] at this
theorem Grph.domB_iff (a b : Int) : domB E n a b = true ↔ Dom E a b := by
 unfold domB
 rw [qo, decide_eq_true_iff, hE.lev_mem]
 constructor
 ·rintro ⟨hb, h⟩
  have h1 := lev_lt hE hb
  have h2 := hE.at_lt hb
  have h3 := order_len hE
  exact (hE.dom_iff hb).2 ((chain_mem hE n b hb (by omega)).1 (by simpa using h))
 ·intro h
  have hb := (order_mem hE.toEOk b).2 h.1
  have h1 := lev_lt hE hb
  have h2 := hE.at_lt hb
  have h3 := order_len hE
  exact ⟨hb, by simpa using (chain_mem hE n b hb (by omega)).2 ((hE.dom_iff hb).1 h)⟩
end
end Go.Proofs.YtjnpcfpecilejaaGreatDoor
namespace Go.Proofs.YtjnpcfpecilejaaGreatDoor
open Go.Proofs.Tryz
def endsL (t : PTerm) : List Int := if t.kind = 0 then [t.to0] else if t.kind = 1 then (if t.to0 = t.to1 then [t.to0] else [t.to0, t.to1]) else []
theorem endsL_len (t : PTerm) : (endsL t).length ≤ 2 := by unfold endsL; split <;> (try split) <;> (try split) <;> simp
theorem endsL_nodup (t : PTerm) : (endsL t).Nodup := by
 unfold endsL
 split
 ·simp
 ·split
  ·split <;> simp_all
  ·simp
def EndsOf (f : PFunc) (b : Int) : List Int := if 0 ≤ b then ((f.blocks[b.toNat]?).map fun c => endsL c.term).getD [] else []
theorem EndsOf_nat {f : PFunc} {k : Nat} (h : k < f.blocks.length) : EndsOf f (k : Int) = endsL f.blocks[k].term := by
 unfold EndsOf; rw [if_pos (by omega)]
 rw [show ((k : Int).toNat) = k from rfl, qd h]; rfl
theorem EndsOf_get {f : PFunc} {b : Int} (h0 : 0 ≤ b) (h : b.toNat < f.blocks.length) : EndsOf f b = endsL f.blocks[b.toNat].term := by
 unfold EndsOf; rw [if_pos h0, qd h]; rfl
theorem EndsOf_out {f : PFunc} {b : Int} (h : ¬ (0 ≤ b ∧ b < f.blocks.length)) : EndsOf f b = [] := by
 unfold EndsOf
 split
 ·rw [List.getElem?_eq_none (by omega)]; rfl
 ·rfl
theorem EndsOf_len (f : PFunc) (b : Int) : (EndsOf f b).length ≤ 2 := by
 unfold EndsOf
 split
 ·cases f.blocks[b.toNat]? with
  | none => simp
  | some c => exact endsL_len c.term
 ·simp
theorem EndsOf_nodup (f : PFunc) (b : Int) : (EndsOf f b).Nodup := by
 unfold EndsOf
 split
 ·cases f.blocks[b.toNat]? with
  | none => simp
  | some c => exact endsL_nodup c.term
 ·simp
structure EndsOk (f : PFunc) : Prop where
 pos : 0 < f.blocks.length
 rng : ∀ b ∈ f.blocks, ∀ c ∈ endsL b.term, 0 ≤ c ∧ c < f.blocks.length
theorem EndsOk.grph {f : PFunc} (h : EndsOk f) : Grph (EndsOf f) f.blocks.length :=
 {npos := h.pos
  rng := fun b h0 h1 c hc => by
   rw [EndsOf_get h0 (by omega)] at hc
   exact h.rng _ (qh (by omega)) c hc
  len := EndsOf_len f
  out := fun _ hx => EndsOf_out hx }
theorem predsT_nodup {E : Int → List Int} (hn : ∀ b, (E b).Nodup) (n : Nat) (b : Int) : (predsT E n b).Nodup ∧ (predsT E n b).Pairwise (· < ·) := by
 have key : (predsT E n b).Pairwise (· < ·) := by
  unfold predsT
  rw [List.flatMap, List.pairwise_flatten]
  constructor
  ·intro l hl
   obtain ⟨i, _, rfl⟩ := List.mem_map.1 hl
   have h1 := hn i
   have h2 : ((E i).filter fun c => decide (c = b)).length ≤ 1 := by
    generalize E i = l at h1
    induction l with
    | nil => simp
    | cons x l ih =>
     rw [List.nodup_cons] at h1
     rw [List.filter_cons]
     split
     ·rename_i hx
      have hx : x = b := by simpa using hx
      have : l.filter (fun c => decide (c = b)) = [] := List.filter_eq_nil_iff.2 fun y hy => by
       intro e
       have : y = b := by simpa using e
       rw [← hx] at this
       exact h1.1 (this ▸ hy)
      rw [this]; simp
     ·exact ih h1.2
   match h3 : ((E i).filter fun c => decide (c = b)) with
   | [] => simp
   | [x] => simp
   | x :: y :: r => rw [h3] at h2; simp at h2
  ·rw [List.pairwise_map]
   unfold intsTo
   rw [List.pairwise_map]
   refine List.Pairwise.imp ?_ List.pairwise_lt_range
   intro i j hij x hx y hy
   obtain ⟨_, _, rfl⟩ := List.mem_map.1 hx
   obtain ⟨_, _, rfl⟩ := List.mem_map.1 hy
   exact Int.ofNat_lt.2 hij
 exact ⟨key.imp fun h e => by omega, key⟩
def FromP (E : Int → List Int) (a shut b : Int) : Prop := a ≠ shut ∧ ∃ c, c ∈ E a ∧ Way E (fun x => x ≠ shut) c b
theorem FromP.step {E : Int → List Int} {a shut x y : Int} (h : (x = a ∧ a ≠ shut) ∨ FromP E a shut x) (he : y ∈ E x) (hy : y ≠ shut) : FromP E a shut y := by
 rcases h with ⟨rfl, h⟩ | ⟨h, c, hc, hw⟩
 ·exact ⟨h, y, he, .refl hy⟩
 ·exact ⟨h, c, hc, .step hw he hy⟩
theorem FromP.closed {E : Int → List Int} {a shut : Int} {out : Int → Prop} (hc : ∀ x y, x ≠ shut → (x = a ∨ out x) → y ∈ E x → y ≠ shut → out y) {b : Int} (h : FromP E a shut b) : out b := by
 obtain ⟨ha, c, hc1, hw⟩ := h
 induction hw with
 | refl h1 => exact hc a c ha (.inl rfl) hc1 h1
 | step h1 h2 h3 ih => exact hc _ _ h1.end_ (.inr ih) h2 h3
theorem reachedP {E : Int → List Int} {shut b : Int} : ((b = 0 ∧ shut ≠ 0) ∨ (b ≠ 0 ∧ FromP E 0 shut b)) ↔ Way E (fun x => x ≠ shut) 0 b := by
 constructor
 ·rintro (⟨rfl, h⟩ | ⟨_, h, c, hc, hw⟩)
  ·exact .refl (fun e => h e.symm)
  ·exact Way.trans (.step (.refl h) hc hw.start) hw
 ·intro h
  by_cases hb : b = 0
  ·exact .inl ⟨hb, fun e => h.start e.symm⟩
  ·refine .inr ⟨hb, h.start, ?_⟩
   rcases h.last with e | ⟨c, hc, hw⟩
   ·exact absurd e hb
   ·exact ⟨c, hc, hw.mono fun _ h => h.1⟩
theorem way_all {E : Int → List Int} {n : Nat} (hE : Grph E n) {b : Int} : Way E (fun x => x ≠ -1) 0 b ↔ Rch E b := by
 constructor
 ·exact fun h => h.mono fun _ _ => trivial
 ·intro h
  refine h.self.mono fun x hx e => ?_
  have := order_rng hE.toEOk ((order_mem hE.toEOk x).2 hx.2)
  omega
abbrev Plc := Int × Int
def mkBlk (v : Int) (i : Int) (b : PBlock) : List Plc := (b.phis.filter fun p => decide (p.dst = v)).map (fun _ => (i, -1)) ++ (b.insts.zipIdx.filter fun x => decide (x.1.dst = v)).map fun x => (i, (x.2 : Int))
def makings (f : PFunc) (v : Int) : List Plc := f.blocks.zipIdx.flatMap fun b => mkBlk v (b.2 : Int) b.1
def makerT (f : PFunc) (v : Int) : Plc := (makings f v).head?.getD (-1, 0)
def OnceP (f : PFunc) : Prop := ∀ v : Nat, v < f.vars.length → (makings f v).length ≤ 1 ∧ (makings f v ≠ [] → f.params.length ≤ v)
def AheadP (f : PFunc) (m : Plc) (b at_ : Int) : Prop := m.1 < 0 ∨ (m.1 = b ∧ m.2 < at_) ∨ (0 ≤ m.1 ∧ m.1 ≠ b ∧ Dom (EndsOf f) m.1 b)
def JoinP (f : PFunc) : Prop := ∀ i (h : i < f.blocks.length), ∀ p ∈ f.blocks[i].phis, p.from_.Perm (predsT (EndsOf f) f.blocks.length i)
def AllRP (f : PFunc) : Prop := ∀ i : Nat, i < f.blocks.length → Rch (EndsOf f) i
def lenAt (f : PFunc) (b : Int) : Int := ((f.blocks[b.toNat]?).map fun c => (c.insts.length : Int)).getD 0
def BehindP (f : PFunc) (i : Nat) (b : PBlock) : Prop :=
 (∀ p ∈ b.phis, ∀ q ∈ p.args.zip p.from_, AheadP f (makerT f q.1) q.2 (lenAt f q.2)) ∧
 (∀ k (h : k < b.insts.length), ∀ v ∈ b.insts[k].args, AheadP f (makerT f v) i k) ∧
 (b.term.kind = 0 ∨ AheadP f (makerT f b.term.var) i b.insts.length)
def BehP (f : PFunc) : Prop := ∀ i (h : i < f.blocks.length), BehindP f i f.blocks[i]
def SingP (f : PFunc) : Prop := JoinP f ∧ AllRP f ∧ OnceP f ∧ BehP f
end Go.Proofs.YtjnpcfpecilejaaGreatDoor
namespace Go.Proofs.YtjnpcfpecilejaaGreatDoor
open Go.Proofs.Tryz
open Go.Proofs
theorem ps23_1 : PlacesS Tryz.prog 23 3 1 1 [.int .i64 0] := ⟨_, underlying23, sizeOf3, zeroValue3, by decide, by decide, by kernel_rfl⟩
theorem ps23_2 : PlacesS Tryz.prog 23 3 2 1 [.int .i64 0, .int .i64 0] := ⟨_, underlying23, sizeOf3, zeroValue3, by decide, by decide, by kernel_rfl⟩
variable {E : World}
set_option maxRecDepth 20000
theorem ends_0 {t : PTerm} (h : t.kind = 0) : endsL t = [t.to0] := by unfold endsL; rw [if_pos h]
theorem ends_1 {t : PTerm} (h : t.kind = 1) (e : t.to0 = t.to1) : endsL t = [t.to0] := by unfold endsL; rw [if_neg (by omega), if_pos h, if_pos e]
theorem ends_2 {t : PTerm} (h : t.kind = 1) (e : ¬ t.to0 = t.to1) : endsL t = [t.to0, t.to1] := by unfold endsL; rw [if_neg (by omega), if_pos h, if_neg e]
theorem ends_3 {t : PTerm} (h0 : ¬ t.kind = 0) (h : ¬ t.kind = 1) : endsL t = [] := by unfold endsL; rw [if_neg h0, if_neg h]
theorem ends_spec (t : PTerm) : AFun Tryz.prog E 138 [.agg (encTerm t)] (.fro 1 ((endsL t).map encI)) := by
 refine zp func138 rfl (by decide) rfl<|zb<|z7 rfl<|yd (cs := _) rfl rfl rfl<|z2 (zy (v := .raw _) rfl)<|z6<|zb<|zh<|zb<|zb<|z7 rfl<|z2 (zc underlying64 rfl sizeOf61 (by decide) rfl rfl)<|z2 (zLi isAgg61 rfl)<|z2 (y3 rfl rfl)<|z2 (zAb rfl)<|z6<|zx rfl (fun c0 => ?_) (fun c0 => ?_)
 ·refine ze<|yo rfl (by simpa using c0)<|zb<|z7 rfl<|z2 (zc underlying64 rfl sizeOf62 (by decide) rfl rfl)<|z2 (yv (j := 0) underlying62 sizeOf3 rfl rfl rfl (by decide) rfl)<|z2 (zLi isAgg3 rfl)<|y5 (rows := [[_]]) ps23_1 rfl rfl rfl rfl rfl<|z2 (zAf rfl)<|z6<|zj<|zl (x := .fro _ _) rfl ?_
  rw [ends_0 c0]; rfl
 ·refine z7 rfl<|z2 (zc underlying64 rfl sizeOf61 (by decide) rfl rfl)<|z2 (zLi isAgg61 rfl)<|z2 (y3 rfl rfl)<|z2 (zMb rfl)<|zn (s := 10) rfl (fun c1 => ?_) (fun c1 => ?_)
  ·refine za rfl rfl c1<|z2 (zc underlying64 rfl sizeOf62 (by decide) rfl rfl)<|za rfl rfl c1<|z2 (yv (j := 0) underlying62 sizeOf3 rfl rfl rfl (by decide) rfl)<|za rfl rfl c1<|z2 (zLi isAgg3 rfl)<|za rfl rfl c1<|z2 (zc underlying64 rfl sizeOf62 (by decide) rfl rfl)<|za rfl rfl c1<|z2 (yv (j := 1) underlying62 sizeOf3 rfl rfl rfl (by decide) rfl)<|za rfl rfl c1<|z2 (zLi isAgg3 rfl)<|za rfl rfl c1<|z2 (y3 rfl rfl)<|z2 (zPt rfl c1 rfl)<|z2 (zAb rfl)<|z6<|zu rfl (fun c2 => ?_) (fun c2 => ?_)
   ·refine zb<|z7 rfl<|z2 (zc underlying64 rfl sizeOf62 (by decide) rfl rfl)<|z2 (yv (j := 0) underlying62 sizeOf3 rfl rfl rfl (by decide) rfl)<|z2 (zLi isAgg3 rfl)<|y5 (rows := [[_]]) ps23_1 rfl rfl rfl rfl rfl<|z2 (zAf rfl)<|z6<|zj<|zl (x := .fro _ _) rfl ?_
    rw [ends_1 (by simpa using c1) (by simpa using c2)]; rfl
   ·refine zb<|z7 rfl<|z2 (zc underlying64 rfl sizeOf61 (by decide) rfl rfl)<|z2 (zLi isAgg61 rfl)<|z2 (y3 rfl rfl)<|z2 (zAb rfl)<|z6<|yo rfl (by simpa using c1)<|zb<|z7 rfl<|z2 (zc underlying64 rfl sizeOf62 (by decide) rfl rfl)<|z2 (yv (j := 0) underlying62 sizeOf3 rfl rfl rfl (by decide) rfl)<|z2 (zLi isAgg3 rfl)<|z2 (zc underlying64 rfl sizeOf62 (by decide) rfl rfl)<|z2 (yv (j := 1) underlying62 sizeOf3 rfl rfl rfl (by decide) rfl)<|z2 (zLi isAgg3 rfl)<|y5 (rows := [[_], [_]]) ps23_2 rfl rfl rfl rfl rfl<|z2 (zAf rfl)<|z6<|zj<|zl (x := .fro _ _) rfl ?_
    rw [ends_2 (by simpa using c1) (by simpa using c2)]; rfl
  ·refine z8 rfl rfl c1<|z8 rfl rfl c1<|z8 rfl rfl c1<|z8 rfl rfl c1<|z8 rfl rfl c1<|z8 rfl rfl c1<|z8 rfl rfl c1<|z2 (zPf rfl c1 rfl)<|z2 (zAb rfl)<|z6<|yg rfl rfl<|zb<|z7 rfl<|z2 (zc underlying64 rfl sizeOf61 (by decide) rfl rfl)<|z2 (zLi isAgg61 rfl)<|z2 (y3 rfl rfl)<|z2 (zAb rfl)<|z6<|yg rfl (by simpa using c1)<|ze<|zb<|z7 rfl<|z2 (zy (v := .raw _) rfl)<|z6<|zj ?_
   repeat (first | refine aseqQ_ret ?_ | refine ablockQ_ret ?_)
   refine GStep.fin (GStep.slot (t := 2) rfl (impNil 1))<|zl (x := .fro _ _) rfl ?_
   rw [ends_3 (by simpa using c0) (by simpa using c1)]; rfl
def push1 (rows : List (List Int)) (c x : Int) : List (List Int) := rows.set c.toNat ((rows[c.toNat]?).getD [] ++ [x])
def pushes (rows : List (List Int)) (cs : List Int) (x : Int) : List (List Int) := cs.foldl (fun r c => push1 r c x) rows
theorem pushes_len (cs : List Int) (x : Int) : ∀ rows, (pushes rows cs x).length = rows.length := by
 induction cs with
 | nil => intro rows; rfl
 | cons c cs ih => intro rows; show (pushes (push1 rows c x) cs x).length = _; rw [ih]; unfold push1; simp
theorem pushes_snoc (rows : List (List Int)) (cs : List Int) (c x : Int) : pushes rows (cs ++ [c]) x = push1 (pushes rows cs x) c x := by unfold pushes; rw [List.foldl_append]; rfl
theorem push1_get {rows : List (List Int)} {c x : Int} (h0 : 0 ≤ c) (b : Nat) : (push1 rows c x)[b]? = (rows[b]?).map (· ++ if c = (b : Int) then [x] else []) := by
 unfold push1
 rw [List.getElem?_set]
 by_cases e : c.toNat = b
 ·have : c = (b : Int) := by omega
  rw [if_pos e, if_pos this, e]
  by_cases hb : b < rows.length
  ·rw [if_pos hb, qd hb]; rfl
  ·rw [if_neg hb, List.getElem?_eq_none (by omega)]; rfl
 ·have : ¬ c = (b : Int) := by omega
  rw [if_neg e, if_neg this]; simp
theorem pushes_get (x : Int) (b : Nat) : ∀ (cs : List Int) (rows : List (List Int)), (∀ c ∈ cs, 0 ≤ c) → (pushes rows cs x)[b]? = (rows[b]?).map (· ++ (cs.filter fun c => decide (c = (b : Int))).map fun _ => x)
 | [], rows, _ => by simp [pushes]
 | c :: cs, rows, h => by
  show (pushes (push1 rows c x) cs x)[b]? = _
  rw [pushes_get x b cs _ (fun c hc => h c (List.mem_cons_of_mem _ hc)), push1_get (h c (List.mem_cons_self ..))]
  cases rows[b]? with
  | none => rfl
  | some r =>
   by_cases e : c = (b : Int)
   ·simp [e]
   ·simp [e]
def predsR (f : PFunc) (k : Nat) : List (List Int) := (List.range f.blocks.length).map fun (b : Nat) => predsT (EndsOf f) k (b : Int)
theorem predsR_len (f : PFunc) (k : Nat) : (predsR f k).length = f.blocks.length := by unfold predsR; simp
theorem predsR_zero (f : PFunc) : List.replicate f.blocks.length [] = predsR f 0 := by
 apply List.ext_getElem
 ·rw [predsR_len]; simp
 ·intro i h1 h2
  unfold predsR predsT intsTo
  simp
theorem predsT_succ (E : Int → List Int) (k : Nat) (b : Int) : predsT E (k + 1) b = predsT E k b ++ ((E k).filter fun c => decide (c = b)).map fun _ => (k : Int) := by
 unfold predsT; rw [intsTo_succ, List.flatMap_append]; simp
theorem predsR_succ {f : PFunc} {k : Nat} (h0 : ∀ c ∈ EndsOf f k, 0 ≤ c) : pushes (predsR f k) (EndsOf f k) k = predsR f (k + 1) := by
 apply List.ext_getElem?
 intro b
 rw [pushes_get _ _ _ _ h0]
 by_cases hb : b < f.blocks.length
 ·unfold predsR
  rw [ql, ql, List.getElem?_range hb]
  simp only [Option.map_some]
  rw [predsT_succ]
 ·rw [List.getElem?_eq_none (by rw [predsR_len]; omega), List.getElem?_eq_none (by rw [predsR_len]; omega)]; rfl
theorem push_row {rows : List (List Int)} {c x : Int} (h : c.toNat < rows.length) : rows.set c.toNat (rows[c.toNat] ++ [x]) = push1 rows c x := by
 unfold push1; rw [qd h]; rfl
theorem predsT_len (f : PFunc) (b : Int) : ∀ k, (predsT (EndsOf f) k b).length ≤ 2 * k
 | 0 => by simp [predsT, intsTo]
 | k + 1 => by
  have h1 := predsT_len f b k
  have h2 := EndsOf_len f k
  have h3 := List.length_filter_le (fun c => decide (c = b)) (EndsOf f k)
  rw [predsT_succ, qj, qk]
  omega
theorem row_len {f : PFunc} {k b : Nat} {cs : List Int} {x : Int} (h0 : ∀ c ∈ cs, 0 ≤ c) (hb : b < (pushes (predsR f k) cs x).length) : (pushes (predsR f k) cs x)[b].length ≤ 2 * k + cs.length := by
 have hb2 : b < f.blocks.length := by rwa [pushes_len, predsR_len] at hb
 have h := pushes_get x b cs (predsR f k) h0
 have hr : (predsR f k)[b]? = some (predsT (EndsOf f) k (b : Int)) := by unfold predsR; rw [ql, List.getElem?_range hb2]; rfl
 rw [qd hb, hr] at h
 have h : (pushes (predsR f k) cs x)[b] = predsT (EndsOf f) k (b : Int) ++ (cs.filter fun c => decide (c = (b : Int))).map fun _ => x := by simpa using h
 have h2 := predsT_len f b k
 have h3 := List.length_filter_le (fun c => decide (c = (b : Int))) cs
 rw [h, qj, qk]
 omega
theorem preds_spec (f : PFunc) (hE : EndsOk f) (hn : f.blocks.length ≤ 100000) : AFun Tryz.prog E 146 [.agg (encF f)] (froN eI (predsR f f.blocks.length)) := by
 refine zp func146 rfl (by decide) rfl<|zb<|z7 rfl<|yd (cs := _) rfl rfl rfl<|z2 (zy (v := .raw _) rfl)<|z6<|zb<|z7 rfl<|z2 (zc underlying26 rfl sizeOf24 (by decide) rfl rfl)<|z2 (zLf isAgg24 rfl)<|z2 (y1 underlying24 rfl)<|ya (m := f.blocks.length) underlying103 Tryz.type23 rfl rfl rfl rfl rfl (by simp) (by simp) (by show (24 : Int) * _ ≤ _; omega) (by omega) eI 3<|fun b11 => z2 (zy (v := nref _ _) rfl)<|z6<|zb<|zb<|z7 rfl<|z2 (zc underlying26 rfl sizeOf24 (by decide) rfl rfl)<|z2 (zLf isAgg24 rfl)<|z2 (y1 underlying24 rfl)<|z2 (zMi rfl)<|z6<|zh<|y8 (γ := Nat) [3, 13, 14] (fun k => [(15, .int .i64 k)]) (fun k => [(0, nestO eI 23 3 b11 (predsR f k))]) (fun k => k ≤ f.blocks.length) (fun k => f.blocks.length - k) 0 zR1 ⟨_, (.refl _), by rw [predsR_zero]⟩ (qg _) ?_
 rintro k hk
 refine zb<|z7 rfl<|z2 (yf rfl rfl)<|z6<|zb<|zx rfl (fun ck => ?_) (fun ck => ?_)
 ·have hk2 : k < f.blocks.length := by simp at ck; omega
  have hEk : EndsOf f k = endsL f.blocks[k].term := EndsOf_nat hk2
  have hlen := endsL_len f.blocks[k].term
  have hrng := hE.rng _ (qh hk2)
  refine ze<|zb<|zh<|zb<|z7 rfl<|z2 (zMi rfl)<|z2 (y6 (j := k) underlying24 sizeOf66 rfl rfl rfl (qd hk2))<|z2 (zm isAgg66 sizeOf66 rfl rfl)<|yb (cs := [.str ⟨#[]⟩, .raw (.slice none 0 0), .raw (.slice none 0 0), .int .i64 0, .int .i64 0, .int .i64 0, .int .i64 0]) zeroValue66 rfl rfl<|fun i5 => z2 (zAi rfl)<|y4 sizeOf66 rfl rfl rfl rfl rfl rfl .head rfl<|z6<|zb<|z7 rfl<|z2 (zr underlying66 rfl sizeOf64 (by decide) rfl rfl)<|z2 (Gv.loadAC (l := [_, _, _, _]) isAgg64 sizeOf64 rfl ⟨_, .head⟩ rfl rfl)<|zi (ends_spec _) rfl<|z2 (y1 underlying23 rfl)<|z2 (zMi rfl)<|z6<|zh<|y8 (γ := Nat) [3, 4, 13, 14, 15, 22, 23] (fun j => [(24, .int .i64 j)]) (fun j => [(0, nestO eI 23 3 b11 (pushes (predsR f k) ((endsL f.blocks[k].term).take j) k))]) (fun j => j ≤ (endsL f.blocks[k].term).length) (fun j => (endsL f.blocks[k].term).length - j) 0 zR1 ⟨_, (.drop (.refl _)), rfl⟩ (qg _) ?_
  rintro j hj
  refine zb<|z7 rfl<|z2 (yf rfl rfl)<|z6<|zb<|zx rfl (fun cj => ?_) (fun cj => ?_)
  ·have hj2 : j < (endsL f.blocks[k].term).length := by simp at cj; omega
   obtain ⟨c, hc⟩ : ∃ c, (endsL f.blocks[k].term)[j] = c := ⟨_, rfl⟩
   have hr := hrng c (hc ▸ qh hj2)
   obtain ⟨rows, hrows⟩ : ∃ rows, pushes (predsR f k) ((endsL f.blocks[k].term).take j) k = rows := ⟨_, rfl⟩
   have hrl : rows.length = f.blocks.length := by rw [← hrows, pushes_len, predsR_len]
   have hcn : c.toNat < rows.length := by omega
   have hrow : rows[c.toNat].length ≤ 200002 := by
    have := row_len (f := f) (k := k) (b := c.toNat) (cs := (endsL f.blocks[k].term).take j) (x := k) (fun c hc => (hrng c (List.mem_of_mem_take hc)).1) (by rw [hrows]; exact hcn)
    simp only [hrows, List.length_take] at this
    omega
   rw [hrows]
   refine ze<|zb<|zh<|zb<|z7 rfl<|z2 (y6 (j := j) underlying23 sizeOf3 rfl rfl rfl (by rw [qd hj2, hc]))<|z2 (zLi isAgg3 rfl)<|z2 (zAi rfl)<|z6<|z7 rfl<|z2 (zq (v := nref _ _) rfl)<|z2 (zMi rfl)<|z2 (zq (v := nref _ _) rfl)<|z2 (zMi rfl)<|z2 (q9 (j := c.toNat) underlying103 sizeOf23 rfl rfl (by omega) (by omega))<|yz (j := c.toNat) (r := rows[c.toNat]) isAgg23 rfl (qd hcn) (fun _ => .head)<|fun i33 => z2 (zMi rfl)<|y5 (rows := [[_]]) ps23_1 rfl rfl rfl rfl rfl<|yr (k := 1) underlying23 Tryz.type3 rfl rfl rfl rfl rfl (fun _ => .head) (by rw [eI.av_len]; rfl) (by decide) rfl (by show (_ + 1) * 8 ≤ _; omega) (by show _ + 1 ≤ _; omega)<|fun i36 => z2 (q9 (j := c.toNat) underlying103 sizeOf23 rfl rfl (by omega) (by omega))<|qb (j := c.toNat) (r := rows[c.toNat] ++ [(k : Int)]) sizeOf23 rfl rfl (by omega) .head .head rfl (eI.av_push _ _) (by simp)<|z6<|z7 rfl<|z2 (y9 rfl rfl (by unfold I64; omega))<|z2 (zMi rfl)<|z6 ?_
   exact ⟨j + 1, zR7, zR1, ⟨_, (.refl _), by rw [qe hj2, pushes_snoc, hrows, hc, push_row hcn]⟩, hj2, by omega⟩
  ·have hjn : j = (endsL f.blocks[k].term).length := by simp at cj; omega
   refine y7<|z7 rfl<|z2 (y9 rfl rfl (by unfold I64; omega))<|z2 (zMi rfl)<|z6 ?_
   exact ⟨k + 1, zR3, zR1, ⟨_, (.refl _), by rw [hjn, qi, ← hEk, predsR_succ (fun c hc => (hrng c (hEk ▸ hc)).1)]⟩, hk2, by omega⟩
 ·have hkn : k = f.blocks.length := by simp at ck; omega
  subst hkn
  refine yt (GStep.nestKnow (s := 3) rfl .head (predsR_len f _))<|y7<|zb<|z7 rfl<|z2 (zMf rfl)<|z2 (zAf rfl)<|z6<|zj<|zl (x := .fro _ _) rfl ?_
  rfl
end Go.Proofs.YtjnpcfpecilejaaGreatDoor
namespace Go.Proofs.YtjnpcfpecilejaaGreatDoor
open Go.Proofs.Tryz
open Go.Sort (Holds putRow putCells onCells)
theorem putCells_eq {zs ys : List Int} {junk : List Value} (hl : ys.length = zs.length) : putCells (Value.int .i64) 0 ys.toArray (zs.map (Value.int .i64) ++ junk).toArray = (ys.map (Value.int .i64) ++ junk).toArray := by
 unfold putCells
 apply Array.ext_getElem?
 intro k
 simp only [Array.getElem?_mapIdx, List.getElem?_toArray, qg, true_and, Nat.zero_add, Nat.sub_zero, List.size_toArray]
 by_cases hk : k < ys.length
 ·rw [List.getElem?_append_left (by rw [qk]; omega), List.getElem?_append_left (by rw [qk]; omega), ql, ql, qd hk, qd (by omega : k < zs.length)]
  simp [hk]
 ·rw [List.getElem?_append_right (by rw [qk]; omega), List.getElem?_append_right (by rw [qk]; omega), qk, qk, hl]
  rw [hl] at hk
  simp only [hk, if_false]
  cases junk[k - zs.length]? <;> rfl
theorem SL.turned {I : Ghost} {O : List (Nat × Obj)} {E w : World} {b n : Nat} {zs ys : List Int} {junk : List Value} {T : TypeId} {os : Array Obj} (hl : ys.length = zs.length) (h : SL I ((b, .cells (zs.map (Value.int .i64) ++ junk).toArray T (0, 0)) :: O) E w) :
  SL I ((b, .cells (ys.map (Value.int .i64) ++ junk).toArray T (0, 0)) :: O) E (Go.Sort.grow (putRow (Value.int .i64) (Go.Sort.ahead w n) b 0 ys.toArray) os) := by
 have hb := h.own _ (.head _)
 simp only at hb
 have hlt := lt_of_some hb
 have h1 : SL I ((b, .cells (ys.map (Value.int .i64) ++ junk).toArray T (0, 0)) :: O) E (putRow (Value.int .i64) (Go.Sort.ahead w n) b 0 ys.toArray) := by
  refine h.turn rfl rfl rfl ?_ fun k hk => ?_
  ·show (w.heap.modify b (onCells (putCells (Value.int .i64) 0 ys.toArray)))[b]? = _
   rw [Array.getElem?_modify, if_pos rfl, hb]
   simp only [Option.map_some, onCells, putCells_eq hl]
  ·show (w.heap.modify b (onCells (putCells (Value.int .i64) 0 ys.toArray)))[k]? = _
   rw [Array.getElem?_modify, if_neg (fun e => hk e.symm)]
 exact h1.more rfl rfl rfl fun k hk => Go.Sort.heap_grow_old _ _ hk
theorem ACall.turned {E : World} {P : Program} {f : FuncId} {fn : Func} {c : Code} {g : List Int → List Int} {B : Nat} (hf : P.funcs[f]? = some fn) (hb : fn.body = some c) (hn : fn.name ≠ "runtime.NumGoroutine") (hg : ∀ l, (g l).length = l.length)
  (hC : ∀ (blk cap : Nat) (zs : List Int) (w : World), Holds (Value.int .i64) w blk 0 zs.toArray → blk < w.heap.size → zs.length < B →
   Calls P f #[.slice (some ⟨blk, 0, none⟩) zs.length cap] w fun e w' => e = .returned (.tuple #[]) ∧ ∃ n os, w' = Go.Sort.grow (putRow (Value.int .i64) (Go.Sort.ahead w n) blk 0 (g zs).toArray) os)
  (hN : ∀ (cap : Nat) (w : World), Calls P f #[.slice none 0 cap] w fun e w' => e = .returned (.tuple #[]) ∧ w' = w)
  {l : List Int} {i n : Nat} {T : TypeId} (hl : l.length = n) (hB : n < B) : ACall P E f [.own i n] [(i, .grow 1 T (cI l))] fun r O => r = .tup [] ∧ O = [(i, .grow 1 T (cI (g l)))] := fun I F w vs h1 h2 => by
 obtain ⟨v, us, rfl, ⟨b, c, e1, rfl⟩, h3⟩ := h1
 have h3 : us = [] := h3
 subst h3
 obtain ⟨ht, L, ⟨A, B', e2, ⟨b', c', n', ws, e3, h4, h5, h6⟩, h7⟩, hS⟩ := h2
 have h7 : B' = [] := h7
 subst h7
 rw [List.append_nil] at e2
 subst e2
 simp only at e3
 rw [e1] at e3
 simp only [Option.some.injEq, Prod.mk.injEq] at e3
 obtain ⟨rfl, rfl⟩ := e3
 have h4 := cI_un h4
 subst h4
 refine Fn.ofCalls hf hb hn ?_
 obtain ⟨g1, g2, g3⟩ := h6
 rw [qk, Nat.mul_one] at g1
 have hnn : n' = n := by omega
 subst hnn
 rcases g3 with ⟨ea, rfl, rfl⟩ | ⟨b2, junk, ea, rfl, hj⟩
 ·have h0 : n' = 0 := by omega
  subst h0
  have hl0 : l = [] := List.eq_nil_of_length_eq_zero hl
  subst hl0
  have hg0 : g [] = [] := List.eq_nil_of_length_eq_zero (hg [])
  rw [ea]
  refine (hN 0 w).mono fun e w' ⟨he, hw⟩ => ⟨_, he, I, .tup [], _, .refl _, ⟨[], rfl, rfl⟩, ?_, rfl, rfl⟩
  subst hw
  rw [hg0]
  exact ⟨ht, [], ⟨[], [], rfl, ⟨b, 0, 0, [], e1, rfl, by simp, by rw [ea]; exact OwnS.nil 1 T⟩, rfl⟩, hS⟩
 ·rw [ea]
  have hS2 : SL I.k ((b2, .cells (l.map (Value.int .i64) ++ junk).toArray T (0, 0)) :: F) E w := hS
  have hH : Holds (Value.int .i64) w b2 0 l.toArray := fun j hjl => by
   have hj2 : j < l.length := by simpa using hjl
   have hbk := hS2.own _ (.head _)
   simp only at hbk
   refine ⟨?_, ?_⟩
   ·rw [hS2.cell_own, Nat.zero_add, List.getElem?_toArray, List.getElem?_append_left (by rw [qk]; exact hj2), ql, qd hj2]
    simp [hj2]
   ·simp [World.frozen?, hbk]
  have := hC b2 c l w hH (lt_of_some (hS2.own _ (.head _))) (by omega)
  rw [hl] at this
  refine this.mono fun e w' ⟨he, k, os, hw⟩ => ⟨_, he, I, .tup [], _, .refl _, ⟨[], rfl, rfl⟩, ?_, rfl, rfl⟩
  subst hw
  refine ⟨ht, [(b2, .cells ((g l).map (Value.int .i64) ++ junk).toArray T (0, 0))], ⟨_, [], by simp, ⟨b, c, n', (g l).map (Value.int .i64), e1, cI_rep_of I (g l), fun u hu => by obtain ⟨x, _, rfl⟩ := List.mem_map.1 hu; rfl, by rw [qk, hg, hl, Nat.mul_one], g2, .inr ⟨b2, junk, ea, rfl, by rw [qj, qk, hg] ; rw [qj, qk] at hj; exact hj⟩⟩, rfl⟩, ?_⟩
  exact SL.turned (hg l) hS2
end Go.Proofs.YtjnpcfpecilejaaGreatDoor
namespace Go.Proofs.YtjnpcfpecilejaaGreatDoor
open Go.Proofs.Tryz
variable {α : Type}
theorem NestR.inv {c : Enc α} {e : TypeId} {r : List α} {rs : List (List α)} {hs : List Value} {L : List (Nat × Obj)} (h : NestR c e (r :: rs) hs L) :
  ∃ a n cap hs' A B, hs = .slice a n cap :: hs' ∧ L = A ++ B ∧ OwnS c.k e a n cap (c.vs r) A ∧ NestR c e rs hs' B := by
 cases h with
 | cons h1 h2 => exact ⟨_, _, _, _, _, _, rfl, rfl, h1, h2⟩
def nestT (c : Enc α) (T e : TypeId) (b : Nat) (rows : List (List α)) (k : Nat) : AObj := .heap fun L => ∃ (hs : List Value) (B : List (Nat × Obj)), L = (b, .cells hs.toArray T (0, 0)) :: B ∧ hs.length = rows.length ∧ NestR c e (rows.drop k) (hs.drop k) B
section
variable {E : World} {P : Program} {ops : Array Oper} {K : AEnv → OL → Prop} {env : AEnv} {O O' O'' : OL} {rest : List Oper} {n : Nat}
variable {d ty : Nat} {pos : String} {af : Array Edge} {x y z : Operand} {t u e T : TypeId}
theorem GStep.nestTail {c : Enc α} {b m : Nat} {rows : List (List α)} (hO : Put O m (nestO c T e b rows) (nestT c T e b rows 0) O') : GStep E env O env O' := fun I F ρ w h1 h2 => by
 obtain ⟨htop, L, hL, hS⟩ := h2
 obtain ⟨A, B, hp, ⟨hs, B0, rfl, hN⟩, hback⟩ := hO.rep hL
 obtain ⟨L', h5, h6⟩ := hback (G.le.refl I) (A' := (b, .cells hs.toArray T (0, 0)) :: B0) ⟨hs, B0, rfl, hN.len, hN⟩
 exact ⟨I, .refl _, h1, htop, L', h5, hS.perm ((h6.trans hp.symm).append_right F)⟩
theorem AOps.nestShift {c : Enc α} {b k m : Nat} {rows : List (List α)} {r : List α} (ha : ∀ w, (isAgg t).run P w = .ok false w) (hx : aev env x = nptr b k) (hr : rows[k]? = some r)
  (hO : Put O m (nestT c T e b rows k) (nestT c T e b rows (k + 1)) O') (kk : ∀ i, AOps P E ops K rest (aupd env d (.own i r.length)) ((i, .grow c.k e (c.av r)) :: O')) :
  AOps P E ops K (Oper.mk (some d) (.load t x) ty pos af none :: rest) env O := fun I F ρ w h1 h2 => by
 obtain ⟨i, hi⟩ := h2.name
 obtain ⟨htop, L, hL, hS⟩ := h2
 have hx := evRaw h1 hx
 obtain ⟨A, B, hp, ⟨hs, B0, rfl, hl, hN⟩, hback⟩ := hO.rep hL
 obtain ⟨hlt, hrk⟩ := List.getElem?_eq_some_iff.1 hr
 rw [List.drop_eq_getElem_cons hlt, hrk] at hN
 obtain ⟨a, n, cap, hs', A1, B1, g0, rfl, g2, g3⟩ := hN.inv
 have hlt2 : k < hs.length := by omega
 have g0' := g0
 rw [List.drop_eq_getElem_cons hlt2] at g0'
 simp only [List.cons.injEq] at g0'
 obtain ⟨g1, rfl⟩ := g0'
 have g1 : hs[k]? = some (.slice a n cap) := by rw [qd hlt2, g1]
 obtain ⟨b1, rfl⟩ := g2.adr
 have hn : n = r.length := by have := g2.1; rw [c.vs_len] at this; exact (Nat.eq_of_mul_eq_mul_right c.pos this).symm
 subst hn
 obtain ⟨J, e1, hle, e2, htop'⟩ := hi (b1, cap)
 have hS2 : SL I.k ((b, .cells hs.toArray T (0, 0)) :: (A1 ++ B1 ++ (B ++ F))) E w := hS.perm (by
  have := hp.append_right F
  simpa using this.symm)
 obtain ⟨L', h5, h6⟩ := hback hle (A' := (b, .cells hs.toArray T (0, 0)) :: B1) ⟨hs, B1, rfl, hl, g3⟩
 refine Ops.load1 (I := I.k) (O := (b, .cells hs.toArray T (0, 0)) :: (A1 ++ B1 ++ (B ++ F))) ha hS2 hx (.inr ⟨_, _, _, .head _, by rw [List.getElem?_toArray]; exact g1⟩) ?_
 refine yx (fun _ _ => postK.up hle) _ _ _ (kk i J F _ _ ((h1.mono hle).upd d ⟨b1, cap, e2, rfl⟩) ⟨htop', A1 ++ L', ⟨A1, L', rfl, ⟨b1, cap, _, c.vs r, e2, by rw [c.av_eq]; exact lit_reps J _, c.vs_one r, g2⟩, h5⟩, ?_⟩)
 rw [e1]
 refine hS2.perm ?_
 have h7 : (A1 ++ L' ++ F).Perm (A1 ++ ((b, Obj.cells hs.toArray T (0, 0)) :: (B1 ++ B)) ++ F) := (h6.append_left A1).append_right F
 refine h7.trans ?_
 simp only [qf, List.cons_append]
 exact List.perm_middle
end
end Go.Proofs.YtjnpcfpecilejaaGreatDoor
namespace Go.Proofs.YtjnpcfpecilejaaGreatDoor
open Go.Proofs.Tryz
open Go.Proofs
theorem pl266 : Places Tryz.prog 266 #[(0, 1), (1, 1)] [.int .i64 0, .int .i64 0] := ⟨_, _, underlying266, zeroValue266, fun w => by kernel_rfl, rfl⟩
theorem ps267_1 : PlacesS Tryz.prog 267 266 1 2 [.int .i64 0, .int .i64 0] := ⟨_, underlying267, sizeOf266, zeroValue266, by decide, by decide, by kernel_rfl⟩
variable {E : World}
set_option maxRecDepth 20000
def stC (r : List (Int × Nat)) : List AV := (r.reverse.map fun q => [AV.int .i64 q.1, AV.int .i64 (q.2 : Int)]).flatten
theorem stC_cons (b : Int) (k : Nat) (r : List (Int × Nat)) : stC ((b, k) :: r) = stC r ++ [AV.int .i64 b, AV.int .i64 (k : Int)] := by unfold stC; simp
theorem stC_len (r : List (Int × Nat)) : (stC r).length = r.length * 2 := by
 induction r with
 | nil => rfl
 | cons q r ih => obtain ⟨b, k⟩ := q; rw [stC_cons, qj, ih]; simp only [List.length_cons, List.length_nil]; omega
theorem dfs_lens {f : PFunc} {n k : Nat} (hE : EOk (EndsOf f) n) : (dfsN (EndsOf f) n k).2.1.length + (dfsN (EndsOf f) n k).2.2.length ≤ n := by
 have h := dfsN_inv hE k
 have h2 := nodup_len _ (intsTo n) h.nodup fun x hx => mem_intsTo.2 (h.rng x hx)
 rw [intsTo_len, qj, qk] at h2
 exact h2
theorem order_spec (f : PFunc) (hE : EndsOk f) (hn : f.blocks.length ≤ 100000) (hrev : ∀ (l : List Int) (i : Nat) (T : TypeId), l.length ≤ 200000 → ACall Tryz.prog E 225 [.own i l.length] [(i, .grow 1 T (cI l))] fun r O => r = .tup [] ∧ O = [(i, .grow 1 T (cI l.reverse))]) :
  AFun Tryz.prog E 190 [.agg (encF f)] (.fro 1 ((orderT (EndsOf f) f.blocks.length).map encI)) := by
 have hG := hE.grph
 have hpos := hG.npos
 refine zp func190 rfl (by decide) rfl<|zb<|z7 rfl<|yd (cs := _) rfl rfl rfl<|z2 (zy (v := .raw _) rfl)<|z6<|zb<|z7 rfl<|z2 (zc underlying26 rfl sizeOf24 (by decide) rfl rfl)<|z2 (zLf isAgg24 rfl)<|z2 (y1 underlying24 rfl)<|AOps.makeB (m := f.blocks.length) underlying111 Tryz.type4 rfl rfl rfl rfl rfl (by simp) (by simp) (by show (1 : Int) * _ ≤ _; omega) (by omega)<|fun i12 => z2 (zy (v := .own _ _) rfl)<|z6<|zb<|z7 rfl<|z2 (zq (v := .own _ _) rfl)<|z2 (yu (j := 0) underlying111 sizeOf4 rfl rfl rfl ⟨_, .head⟩ (by first | rfl | (simp [cI_len, cB_len]; done) | (simp [cI_len, cB_len]; omega)) hG.npos)<|AOps.storeB (j := 0) sizeOf4 rfl rfl .head (by first | omega | (simp; omega))<|z6<|zb<|z7 rfl<|z2 (zy (v := .raw _) rfl)<|z6<|zb<|z7 rfl<|z2 (zz (cps := [(0, [_]), (1, [_])]) (rs := [_, _]) pl266 rfl rfl rfl)<|AOps.buildSliceO (cps := [(0, [_, _])]) (rs := [_, _]) ps267_1 rfl rfl rfl rfl rfl<|fun i16 => z2 (zy (v := .own _ _) rfl)<|z6<|adopt_wp (t := 4) (k := 1) (T := 3) rfl<|fun i4 => yt (zg (zk (.tail .head)))<|zb<|zh<|y8 (γ := Nat × Nat × Nat) [1, 3] (fun g => [(4, .own g.2.1 (dfsN (EndsOf f) f.blocks.length g.1).2.1.length), (5, .own g.2.2 (dfsN (EndsOf f) f.blocks.length g.1).2.2.length)]) (fun g => [(g.2.2, .grow 2 266 (stC (dfsN (EndsOf f) f.blocks.length g.1).2.2)), (g.2.1, .grow 1 3 (cI (dfsN (EndsOf f) f.blocks.length g.1).2.1)), (i12, .grow 1 4 (cB (dfsN (EndsOf f) f.blocks.length g.1).1))]) (fun g => g.1 ≤ 4 * f.blocks.length ∧ (dfsN (EndsOf f) f.blocks.length g.1).1.length = f.blocks.length) (fun g => dleft (dfsN (EndsOf f) f.blocks.length g.1)) (0, i4, i16) zR2 zLe (⟨qg _, by simp [dfsN, dfs0]⟩) ?_
 rintro ⟨k, io, il⟩ ⟨hk, hsl⟩
 try dsimp only at *
 have hI := dfsN_inv hG.toEOk k
 have hlen := dfs_lens (k := k) hG.toEOk
 have hlt := dfs_left hG.toEOk k
 have hstep : dfsN (EndsOf f) f.blocks.length (k + 1) = dstep (EndsOf f) (dfsN (EndsOf f) f.blocks.length k) := rfl
 rcases hx : dfsN (EndsOf f) f.blocks.length k with ⟨seen, out, st⟩
 rw [hx] at hI hlen hlt hstep hsl
 dsimp only at hlen hlt hsl
 cases st with
 | nil =>
 ·refine zb<|zb<|z7 rfl<|z2 (zq (v := .own _ _) rfl)<|z2 (Gv.lenO underlying267 rfl)<|z2 (yw rfl rfl)<|z6<|yg rfl (by simp) ?_
  have hfin := dfs_still (E := EndsOf f) (n := f.blocks.length) (k := k) (by rw [hx]) hk
  refine y7<|zb<|z7 rfl<|z2 (zq (v := .own _ _) rfl)<|zt rfl (zo (.r (.l (.r (.rest _))))) (hrev out io 3 (by omega)) ?_
  rintro r82 O82 ⟨rfl, rfl⟩
  refine z6<|yt (GStep.knowI (t := 4) rfl .head (by simp))<|zb<|z7 rfl<|z2 (zMf rfl)<|z2 (zAf rfl)<|z6<|zj<|zl (x := .fro _ _) rfl ?_
  unfold orderT; rw [hfin, hx]; rfl
  | cons q r =>
 ·obtain ⟨b, j⟩ := q
  have hbr := hI.rng b (by simp)
  have hbl : b.toNat < f.blocks.length := by omega
  have hEb : EndsOf f b = endsL f.blocks[b.toNat].term := EndsOf_get hbr.1 hbl
  have hjl := (hI.part (b, j) (by simp)).1
  dsimp only at hjl
  have hmn : dleft (dfsN (EndsOf f) f.blocks.length (k + 1)) < dleft (dfsN (EndsOf f) f.blocks.length k) := by rw [hstep, hx]; exact DInv.less hG.toEOk hI (by simp)
  have hk2 : k + 1 ≤ 4 * f.blocks.length := by simp at hlt; omega
  have hsn : (dfsN (EndsOf f) f.blocks.length (k + 1)).1.length = f.blocks.length := (dfsN_inv hG.toEOk (k + 1)).len
  rw [dstep_cons] at hstep
  rw [hx] at hmn
  rw [stC_cons]
  simp only [List.length_cons] at hlen ⊢
  refine zb<|zb<|z7 rfl<|z2 (zq (v := .own _ _) rfl)<|z2 (Gv.lenO underlying267 rfl)<|z2 (yw rfl rfl)<|z6<|yo rfl (by simp)<|ze<|zh<|zb<|z7 rfl<|z2 (zq (v := .own _ _) rfl)<|z2 (zq (v := .own _ _) rfl)<|z2 (Gv.lenO underlying267 rfl)<|z2 (Gv.sub rfl rfl (by unfold I64; show _ ∧ ((r.length + 1 : Nat) : Int) - 1 ≤ _; omega))<|z2 (Gv.idxOL (j := r.length) underlying267 sizeOf266 rfl rfl (by show ((r.length + 1 : Nat) : Int) - 1 = _; omega) ⟨_, .head⟩ (by simp) (by show r.length < r.length + 1; omega) (show r.length * 2 = (stC r).length by rw [stC_len]))<|z2 (zy (v := .po _ _) rfl)<|z6<|zb<|yc (fun j => false) (by kernel_rfl) rfl (zo (.r (.rest _)))<|zTk (i := 0) rfl (zc underlying26 rfl sizeOf24 (by decide) rfl rfl)<|zTk (i := 1) rfl (zLf isAgg24 rfl)<|zTk (i := 2) rfl (zq (v := .po _ _) rfl)<|zTk (i := 3) rfl (ye rfl)<|zTk (i := 4) rfl (zr underlying266 rfl sizeOf3 (by decide) rfl rfl)<|zTk (i := 5) rfl (Gv.loadL (c := .int _ _) (j := 0) isAgg3 rfl rfl ⟨_, .head⟩ rfl)<|zTk (i := 6) rfl (y6 (j := b.toNat) underlying24 sizeOf66 rfl rfl (by omega) (qd hbl))<|zTk (i := 7) rfl (zc underlying66 rfl sizeOf64 (by decide) rfl rfl)<|zTk (i := 8) rfl (zm isAgg64 sizeOf64 rfl rfl)<|zOn (i := 9) rfl<|zi (ends_spec _) rfl<|z6<|zTk (i := 10) rfl (zAf rfl)<|zDn<|zb<|zb<|z7 rfl<|z2 (zq (v := .po _ _) rfl)<|z2 (ye rfl)<|z2 (zr underlying266 rfl sizeOf3 (by decide) rfl rfl) ?_
  refine z2 (Gv.loadL (c := .int _ _) (j := 1) isAgg3 rfl rfl ⟨_, .head⟩ rfl)<|z2 (zMf rfl)<|z2 (y1 underlying23 rfl)<|z2 (y3 rfl rfl)<|z6<|zu rfl (fun ce => ?_) (fun ce => ?_)
  ·have hje : j = (EndsOf f b).length := by rw [hEb]; have h0 : (j : Int) = ((endsL f.blocks[b.toNat].term).length : Int) := (by simpa using ce); omega
   rw [if_pos hje] at hstep
   refine zb<|z7 rfl<|z2 (zq (v := .own _ _) rfl)<|z2 (zq (v := .po _ _) rfl)<|z2 (ye rfl)<|z2 (zr underlying266 rfl sizeOf3 (by decide) rfl rfl)<|z2 (Gv.loadL (c := .int _ _) (j := 0) isAgg3 rfl rfl ⟨_, .head⟩ rfl)<|y5 (rows := [[_]]) ps23_1 rfl rfl rfl rfl rfl<|yr (k := 1) underlying23 Tryz.type3 rfl rfl rfl rfl rfl (fun _ => (.tail .head)) (by rw [cI_len]; omega) (by decide) rfl (by show (out.length + 1) * 8 ≤ _; omega) (by show out.length + 1 ≤ _; omega)<|fun i48 => z2 (zy (v := .own _ _) rfl)<|z6<|zb<|z7 rfl<|z2 (zq (v := .own _ _) rfl)<|z2 (zq (v := .own _ _) rfl)<|z2 (Gv.lenO underlying267 rfl)<|z2 (Gv.sub rfl rfl (by unfold I64; show _ ∧ ((r.length + 1 : Nat) : Int) - 1 ≤ _; omega))<|AOps.cutLast (j := r.length) underlying267 sizeOf266 rfl rfl (by show ((r.length + 1 : Nat) : Int) - 1 = _; omega) .head (by decide) (by rw [stC_len])<|z2 (zy (v := .own _ _) rfl)<|z6<|y7 ?_
   exact ⟨(k + 1, i48, il), zR2, ⟨(by rw [hstep, qj]; rfl), (by rw [hstep]; rfl), trivial⟩, ⟨_, (.refl _), by rw [hstep]; dsimp only; rw [← cI_app]; rfl⟩, ⟨hk2, hsn⟩, by exact hmn⟩
  ·have hje : ¬ j = (EndsOf f b).length := by rw [hEb]; have h0 : ¬ (j : Int) = ((endsL f.blocks[b.toNat].term).length : Int) := (by simpa using ce); omega
   have hj2 : j < (endsL f.blocks[b.toNat].term).length := by rw [← hEb]; omega
   rw [if_neg hje] at hstep
   obtain ⟨c, hc⟩ : ∃ c, ge (EndsOf f b) j = c := ⟨_, rfl⟩
   have hcj : (endsL f.blocks[b.toNat].term)[j]? = some c := by rw [← hEb]; unfold ge at hc; rw [← hc, hEb, qd hj2]; rfl
   have hcr := hG.rng b hbr.1 hbr.2 c (by rw [hEb]; exact List.mem_of_getElem? hcj)
   rw [hc] at hstep
   have hgs : seen[c.toNat]? = some (gb seen c) := by unfold gb; rw [qd (by omega)]; rfl
   have hl2 := hG.len b
   rw [hEb] at hl2
   refine ze<|zb<|z7 rfl<|z2 (zMf rfl)<|z2 (zq (v := .po _ _) rfl)<|z2 (ye rfl)<|z2 (zr underlying266 rfl sizeOf3 (by decide) rfl rfl)<|z2 (Gv.loadL (c := .int _ _) (j := 1) isAgg3 rfl rfl ⟨_, .head⟩ rfl)<|z2 (y6 (j := j) underlying23 sizeOf3 rfl rfl rfl hcj)<|z2 (zLi isAgg3 rfl)<|z2 (zAi rfl)<|z6<|zb<|z7 rfl<|z2 (zq (v := .po _ _) rfl)<|z2 (ye rfl)<|z2 (zr underlying266 rfl sizeOf3 (by decide) rfl rfl)<|z2 (Gv.loadL (c := .int _ _) (j := 1) isAgg3 rfl rfl ⟨_, .head⟩ rfl)<|z2 (y9 rfl rfl (by unfold I64; omega))<|z2 (ye rfl)<|z2 (zr underlying266 rfl sizeOf3 (by decide) rfl rfl)<|AOps.storeL (j := 1) (l := [_]) (new := [_, _]) sizeOf3 rfl rfl rfl rfl rfl rfl rfl .head rfl rfl rfl<|z6<|zb<|z7 rfl<|z2 (zq (v := .own _ _) rfl)<|z2 (zMi rfl)<|z2 (yu (j := c.toNat) underlying111 sizeOf4 rfl rfl (by omega) ⟨_, (.tail (.tail .head))⟩ (by first | rfl | (simp [cI_len, cB_len]; done) | (simp [cI_len, cB_len]; omega)) (by omega))<|z2 (Gv.loadB (j := c.toNat) isAgg4 rfl ⟨_, (.tail (.tail .head))⟩ hgs)<|z2 (yj rfl)<|z6<|zu rfl (fun cs => ?_) (fun cs => ?_)
   ·rw [if_neg (by simpa using cs)] at hstep
    refine zb<|z7 rfl<|z2 (zq (v := .own _ _) rfl)<|z2 (zMi rfl)<|z2 (yu (j := c.toNat) underlying111 sizeOf4 rfl rfl (by omega) ⟨_, (.tail (.tail .head))⟩ (by first | rfl | (simp [cI_len, cB_len]; done) | (simp [cI_len, cB_len]; omega)) (by omega))<|AOps.storeB (j := c.toNat) sizeOf4 rfl rfl (.tail (.tail .head)) (by first | omega | (simp; omega))<|z6<|z7 rfl<|z2 (zq (v := .own _ _) rfl)<|z2 (zMi rfl)<|z2 (zz (cps := [(0, [_]), (1, [_])]) (rs := [_, _]) pl266 rfl rfl rfl)<|y5 (rows := [[_, _]]) ps267_1 rfl rfl rfl rfl rfl<|yr (k := 2) underlying267 Tryz.type266 rfl rfl rfl rfl rfl (fun _ => .head) (by rw [qj, stC_len]; show r.length * 2 + 2 = (r.length + 1) * 2; omega) (by decide) rfl (by show (r.length + 1 + 1) * 16 ≤ _; omega) (by show r.length + 1 + 1 ≤ _; omega)<|fun i80 => z2 (zy (v := .own _ _) rfl)<|z6 ?_
    exact ⟨(k + 1, io, i80), zR2, ⟨(by rw [hstep]; rfl), (by rw [hstep]; rfl), trivial⟩, ⟨_, (.refl _), by rw [hstep, stC_cons, stC_cons]; rfl⟩, ⟨hk2, hsn⟩, by exact hmn⟩
   ·rw [if_pos (by simpa using cs)] at hstep
    refine ze ?_
    exact ⟨(k + 1, io, il), zR2, ⟨(by rw [hstep]; rfl), (by rw [hstep]; rfl), trivial⟩, ⟨_, (.refl _), by rw [hstep, stC_cons]; rfl⟩, ⟨hk2, hsn⟩, by exact hmn⟩
end Go.Proofs.YtjnpcfpecilejaaGreatDoor
namespace Go.Proofs.YtjnpcfpecilejaaGreatDoor
open Go.Proofs.Tryz
section
variable {E : World} {P : Program} {n : Nat} {l : List Oper} {W : Nat → Bool} {Q : AEnv → OL → Prop} {fuel : Nat} {listed : Array Bool} {env : AEnv} {O Os Om : OL}
theorem AAny.many {is : List Nat} (hr : Region.ready .any l.toArray listed = is) (h0 : is ≠ [])
  (h : ∀ k ∈ is, ∃ o, l[k]? = some o ∧ AOps P E l.toArray (fun env' Om' => AAny P E l W Q fuel (listed.setIfInBounds k true) env' Os Om') [o] env Om) : AAny P E l W Q (fuel + 1) listed env Os Om := fun I F ρ w Ls h1 hLs h2 => by
 refine ⟨fun h0' => absurd (hr.symm.trans h0') h0, fun k hk o2 ho2 => ?_⟩
 rw [hr] at hk
 rw [List.getElem?_toArray] at ho2
 obtain ⟨o, e, h⟩ := h k hk
 rw [e] at ho2
 cases ho2
 exact yx (fun ρ' w' ⟨J, env', Om', a, b, c, d⟩ => by
   have hst : stays I.k Ls E w' := by
    obtain ⟨J', L', h3, h4, h5⟩ := c.here
    exact ⟨J', L', a.k.trans h3, h4, h5⟩
   refine ⟨⟨hst.less, .inr hst⟩, AnyV.mono ?_ ?_ (fun _ _ => postK.up a) _ _ _ _ (d J F ρ' w' Ls b (hLs.mono a) c)⟩
   ·rintro w ⟨J', L', h3, h4⟩; exact ⟨J', L', a.k.trans h3, h4⟩
   ·rintro w ⟨J', L', h3, h4⟩; exact ⟨J', L', a.k.trans h3, h4⟩) _ _ _ (h I (Ls ++ F) ρ w h1 h2)
theorem AAny.four {i j m q : Nat} {o1 o2 o3 o4 : Oper} (hi : l[i]? = some o1) (hj : l[j]? = some o2) (hm : l[m]? = some o3) (hq : l[q]? = some o4) (hr : Region.ready .any l.toArray listed = [i, j, m, q])
  (h1 : AOps P E l.toArray (fun env' Om' => AAny P E l W Q fuel (listed.setIfInBounds i true) env' Os Om') [o1] env Om)
  (h2 : AOps P E l.toArray (fun env' Om' => AAny P E l W Q fuel (listed.setIfInBounds j true) env' Os Om') [o2] env Om)
  (h3 : AOps P E l.toArray (fun env' Om' => AAny P E l W Q fuel (listed.setIfInBounds m true) env' Os Om') [o3] env Om)
  (h4 : AOps P E l.toArray (fun env' Om' => AAny P E l W Q fuel (listed.setIfInBounds q true) env' Os Om') [o4] env Om) : AAny P E l W Q (fuel + 1) listed env Os Om :=
 AAny.many hr (by simp) fun k hk => by
  simp only [List.mem_cons, List.not_mem_nil, or_false] at hk
  rcases hk with rfl | rfl | rfl | rfl
  ·exact ⟨_, hi, h1⟩
  ·exact ⟨_, hj, h2⟩
  ·exact ⟨_, hm, h3⟩
  ·exact ⟨_, hq, h4⟩
end
end Go.Proofs.YtjnpcfpecilejaaGreatDoor
namespace Go.Proofs.YtjnpcfpecilejaaGreatDoor
open Go.Proofs.Tryz
def sortI (l : List Int) : List Int := l.mergeSort fun x y => decide (x ≤ y)
theorem sortI_perm (l : List Int) : (sortI l).Perm l := List.mergeSort_perm l _
theorem sortI_sorted (l : List Int) : (sortI l).Pairwise (· ≤ ·) := by
 have := List.pairwise_mergeSort (le := fun x y : Int => decide (x ≤ y)) (fun a b c h1 h2 => by simp at *; omega) (fun a b => by simp; omega) l
 exact this.imp fun h => by simpa using h
theorem sortI_eq {l m : List Int} (hm : m.Pairwise (· < ·)) : sortI l = m ↔ l.Perm m := by
 constructor
 ·intro h; rw [← h]; exact (sortI_perm l).symm
 ·intro h
  exact List.Perm.eq_of_pairwise (le := fun a b : Int => a ≤ b) (fun a b _ _ h1 h2 => Int.le_antisymm h1 h2) (sortI_sorted l) (hm.imp fun h => Int.le_of_lt h) ((sortI_perm l).trans h)
theorem perm_of_subset {l m : List Int} (hn : l.Nodup) (hs : ∀ x ∈ l, x ∈ m) (hl : m.length ≤ l.length) : l.Perm m := by
 induction l generalizing m with
 | nil => obtain rfl : m = [] := List.eq_nil_of_length_eq_zero (by simpa using hl); exact .refl _
 | cons x l ih =>
  rw [List.nodup_cons] at hn
  have hx := hs x (.head _)
  have h1 : l.Perm (m.erase x) := ih hn.2 (fun y hy => (List.mem_erase_of_ne (fun e => hn.1 (by rw [← e]; exact hy))).2 (hs y (.tail _ hy))) (by
   rw [List.length_erase_of_mem hx]; simp at hl; omega)
  exact (List.Perm.cons x h1).trans (List.perm_cons_erase hx).symm
def JoinR (f : PFunc) (i : Nat) (l : List Int) : Prop := (predsT (EndsOf f) f.blocks.length i).length = l.length ∧ ∀ k (h : k < l.length), (i : Int) ∈ EndsOf f l[k] ∧ l[k] ∉ l.take k
theorem nodup_take {l : List Int} : l.Nodup ↔ ∀ k (h : k < l.length), l[k] ∉ l.take k := by
 induction l with
 | nil => simp
 | cons x l ih =>
  rw [List.nodup_cons, ih]
  constructor
  ·rintro ⟨h1, h2⟩ k hk
   cases k with
   | zero => simp
   | succ k =>
    simp only [List.getElem_cons_succ, List.take_succ_cons, List.mem_cons, not_or]
    have hk' : k < l.length := by simpa using hk
    exact ⟨fun e => h1 (by rw [← e]; exact qh hk'), h2 k hk'⟩
  ·intro h
   constructor
   ·intro hm
    obtain ⟨k, hk, e⟩ := List.mem_iff_getElem.1 hm
    have := h (k + 1) (by simpa using hk)
    simp [e] at this
   ·intro k hk
    have := h (k + 1) (by simpa using hk)
    simp only [List.getElem_cons_succ, List.take_succ_cons, List.mem_cons, not_or] at this
    exact this.2
theorem joinR_iff {f : PFunc} (hE : EndsOk f) {i : Nat} {l : List Int} : JoinR f i l ↔ l.Perm (predsT (EndsOf f) f.blocks.length i) := by
 have hg := hE.grph
 have hp := predsT_nodup (EndsOf_nodup f) f.blocks.length i
 unfold JoinR
 constructor
 ·rintro ⟨h1, h2⟩
  refine perm_of_subset (nodup_take.2 fun k hk => (h2 k hk).2) (fun x hx => ?_) (by omega)
  obtain ⟨k, hk, rfl⟩ := List.mem_iff_getElem.1 hx
  exact (mem_predsT hg.toEOk hg.out).2 (h2 k hk).1
 ·intro h
  have hn := h.nodup_iff.2 hp.1
  exact ⟨h.length_eq.symm, fun k hk => ⟨(mem_predsT hg.toEOk hg.out).1 (h.mem_iff.1 (qh hk)), nodup_take.1 hn k hk⟩⟩
theorem joinS_iff {f : PFunc} {i : Nat} {l : List Int} : sortI l = predsT (EndsOf f) f.blocks.length i ↔ l.Perm (predsT (EndsOf f) f.blocks.length i) := sortI_eq (predsT_nodup (EndsOf_nodup f) f.blocks.length i).2
end Go.Proofs.YtjnpcfpecilejaaGreatDoor
namespace Go.Proofs.YtjnpcfpecilejaaGreatDoor
open Go.Proofs.Tryz
def rowO (b : Nat) (T : TypeId) (vs : List Value) : AObj := .heap fun L => L = [(b, .cells vs.toArray T (0, 0))]
def rsl (b off n c : Nat) : AV := .raw (.slice (some ⟨b, off, none⟩) n c)
section
variable {E : World} {P : Program} {ops : Array Oper} {K : AEnv → OL → Prop} {env : AEnv} {O O' O'' : OL} {rest : List Oper}
variable {d ty : Nat} {pos : String} {af : Array Edge} {x y z : Operand} {t u e T : TypeId}
theorem AOps.makeRow {i : TypeInfo} {zv z1 : Value} {m : Nat} {k1 k2 : IntKind} {l l' : Int} (ht : P.underlying t = some (.slice e)) (hi : P.info? e = some i) (hz : i.zero = some zv) (hzc : zv.cells = #[z1]) (hk : i.size = 1) (hx : aev env x = .int k1 l) (hy : aev env y = .int k2 l')
  (hl : l = (m : Int)) (hl' : l' = (m : Int)) (hb : (i.bytes : Int) * (m : Int) ≤ 281474976710656) (hm : m ≤ 281474976710656) (kk : ∀ b, AOps P E ops K rest (aupd env d (rsl b 0 m m)) ((0, rowO b e (List.replicate m z1)) :: O)) :
  AOps P E ops K (Oper.mk (some d) (.makeSlice t x y) ty pos af none :: rest) env O := fun I F ρ w h1 h2 => by
 obtain ⟨htop, L, hL, hS⟩ := h2
 refine Ops.make1 ht hi hz hzc hk (evI h1 hx) (evI h1 hy) hl hl' hb hm hS fun b w' hS' => ?_
 exact kk b I F _ _ (h1.upd d rfl) ⟨htop, _, ⟨[(b, .cells (List.replicate m z1).toArray e (0, 0))], L, rfl, rfl, hL⟩, by simpa using hS'⟩
theorem Gv.rowLo {b n c j : Nat} {a : Int} (ht : P.underlying t = some (.slice e)) (hs : ∀ w, (sizeOf e).run P w = .ok 1 w) (hx : aev env x = rsl b 0 n c) (hy : aev env y = .int .i64 a) (hi : a = (j : Int)) (hj : j ≤ n) (hc : j < c) (hnc : n ≤ c) :
  Gv P env O (Oper.mk (some d) (.slice t x (some y) none none) ty pos af none) (rsl b j (n - j) (c - j)) := Gv.ofEv fun I ρ h => by
 have h1 := evRaw h hx
 have h2 := evI h hy
 subst hi
 refine ⟨_, rfl, fun w => ?_⟩
 have hcj : ¬ c = j := by omega
 simp [execOp, Instr.sliceAt, Instr.slice, Instr.sliceBounds, Instr.sliceBound, asIntOf, Sem.run_bind, run_underlying ht, hs, h1, h2, hcj, hj, addr_add]
theorem Gv.rowHi {b n c j : Nat} {a : Int} (ht : P.underlying t = some (.slice e)) (hs : ∀ w, (sizeOf e).run P w = .ok 1 w) (hx : aev env x = rsl b 0 n c) (hy : aev env y = .int .i64 a) (hi : a = (j : Int)) (hc : j ≤ c) :
  Gv P env O (Oper.mk (some d) (.slice t x none (some y) none) ty pos af none) (rsl b 0 j c) := Gv.ofEv fun I ρ h => by
 have h1 := evRaw h hx
 have h2 := evI h hy
 subst hi
 refine ⟨_, rfl, fun w => ?_⟩
 simp [execOp, Instr.sliceAt, Instr.slice, Instr.sliceBounds, Instr.sliceBound, asIntOf, Sem.run_bind, run_underlying ht, hs, h1, h2, hc, addr_add]
theorem Gv.lenRow {b off m c : Nat} (ht : P.underlying t = some (.slice T)) (hx : aev env x = rsl b off m c) : Gv P env O (Oper.mk (some d) (.call { callee := .builtin .len, args := #[x], argTypes := #[t] }) ty pos af none) (.int .i64 m) := Gv.ofEv fun I ρ h => by
 have h1 := evRaw h hx
 exact ⟨_, rfl, fun w => by simp [execOp, resolve, h1, invoke, builtin, Builtin.len_, run_underlying ht, goInt]⟩
theorem AOps.copyRow {b off dl dc sl q : Nat} {vs cs : List Value} {ty2 : TypeId} (ht : P.underlying t = some (.slice e)) (hs : (P.info? e).map (·.size) = some 1) (hx : aev env x = rsl b off dl dc)
  (hq : cs.length = q) (hmin : q = Nat.min sl dl) (hO : Put O 0 (rowO b T vs) (rowO b T (vs.take off ++ cs ++ vs.drop (off + q))) O') (hfit : off + q ≤ vs.length) (h1c : ∀ v ∈ cs, v.oneCell' = true)
  (hy : ∀ I F ρ w, RepE I env ρ → SLA I O F E w → ∃ a sc, ev ρ y = .slice (some a) sl sc ∧ ∀ j v, cs[j]? = some v → w.cell? (a.add j) = some v)
  (kk : AOps P E ops K rest (aupd env d (.int .i64 q)) O') :
  AOps P E ops K (Oper.mk (some d) (.call { callee := .builtin .copy, args := #[x, y], argTypes := #[t, ty2] }) ty pos af none :: rest) env O := fun I F ρ w h1 h2 => by
 obtain ⟨a, sc, ey, hsrc⟩ := hy I F ρ w h1 h2
 obtain ⟨htop, L, hL, hS⟩ := h2
 have ex := evRaw h1 hx
 obtain ⟨A, B, hp, hA, hback⟩ := hO.rep hL
 have hA : A = [(b, .cells vs.toArray T (0, 0))] := hA
 subst hA
 have hS2 : SL I.k ((b, .cells vs.toArray T (0, 0)) :: (B ++ F)) E w := hS.perm ((hp.append_right F).symm)
 have hrun := run_copy_row (P := P) w t ty2 ty e b off dl dc a sl sc vs.toArray T cs ht hs (hS2.own _ (.head _)) (by rw [hq, hmin]) hsrc (by simpa [hq] using hfit) h1c
 rw [hq] at hrun
 obtain ⟨L', h5, h6⟩ := hback (G.le.refl I) (A' := [(b, .cells (vs.take off ++ cs ++ vs.drop (off + q)).toArray T (0, 0))]) rfl
 refine Ops.step rfl ?_
 unfold OpW
 have hex : (execOp (Go.Proofs.YtjnpcfpecilejaaGreatDoor.ev ρ) (Oper.mk (some d) (.call { callee := .builtin .copy, args := #[x, y], argTypes := #[t, ty2] }) ty pos af none)).run P w = .ok (.value (goInt q)) (w.setRow b (vs.take off ++ cs ++ vs.drop (off + q)).toArray) := by
  simp only [execOp, resolve]
  simp at hrun
  simp [invoke, builtin, ex, ey, hrun]
 rw [hex]
 refine kk I F _ _ (h1.upd d rfl) ⟨htop, L', h5, ?_⟩
 exact (hS2.turn1).perm (h6.append_right F)
theorem AWP.rowOwn {t b m : Nat} {vs : List Value} {O1 : OL} {c : Code} {Q : Exit → AEnv → OL → Prop} {n : Nat} (hv : env t = rsl b 0 m m) (hO : Pick O 0 (rowO b T vs) O1) (hm : vs.length = m) (hc : ∀ u ∈ vs, u.oneCell' = true)
  (h : ∀ i, AWP P E n c Q (aupd env t (.own i m)) ((i, .grow 1 T (vs.map lit)) :: O1)) : AWP P E n c Q env O := fun I F ρ w h1 h2 => by
 obtain ⟨i, hi⟩ := h2.name
 obtain ⟨J, e1, hle, e2, htop⟩ := hi (some b, m)
 obtain ⟨_, L, hL, hS⟩ := h2
 obtain ⟨A, B, hp, hA, hB⟩ := hO.rep hL
 have hA : A = [(b, .cells vs.toArray T (0, 0))] := hA
 subst hA
 refine (h i J F ρ w (fun q => ?_) ⟨htop, _, ⟨[(b, .cells vs.toArray T (0, 0))], B, rfl, ⟨some b, m, m, vs, e2, lit_reps J vs, hc, OwnS.made (by rw [hm, Nat.mul_one])⟩, hB.mono hle⟩, by rw [e1]; exact hS.perm (hp.symm.append_right F)⟩).mono fun _ _ _ => postE.up hle
 unfold aupd
 cases hb : Nat.beq q t with
 | false => exact RepV.mono hle _ _ (h1 q)
 | true =>
  have : q = t := Nat.eq_of_beq_eq_true hb
  subst this
  have h4 := h1 q
  rw [hv] at h4
  exact ⟨some b, m, e2, h4⟩
end
end Go.Proofs.YtjnpcfpecilejaaGreatDoor
namespace Go.Proofs
open Go.Shelf
def Tryz.lays189_ren : Go.Shelf.Ren := ⟨fun | 189 => 193 | 125 => 229 | 257 => 228 | 128 => 250 | 129 => 251 | 294 => 241 | 295 => 242 | 296 => 243 | 297 => 244 | 298 => 245 | 299 => 246 | 216 => 247 | 300 => 248 | 301 => 249 | 328 => 257 | 329 => 258 | 330 => 259 | 331 => 260 | 332 => 261 | 215 => 262 | 343 => 266 | n => n, fun | 28 => 23 | 3 => 3 | 46 => 240 | 0 => 0 | 51 => 269 | 53 => 232 | 4 => 4 | 183 => 288 | 182 => 287 | 131 => 29 | 5 => 5 | 9 => 9 | 218 => 301 | 222 => 305 | 228 => 318 | 229 => 57 | n => n, fun | n => n⟩
theorem Tryz.lays189 : Go.Proofs.Lays.n189 Tryz.prog Tryz.lays189_ren := {
 mixed := by kernel_rfl
 f125 := func229.trans (congrArg some (by kernel_rfl))
 f128 := func250.trans (congrArg some (by kernel_rfl))
 f129 := func251.trans (congrArg some (by kernel_rfl))
 f189 := func193.trans (congrArg some (by kernel_rfl))
 f215 := func262.trans (congrArg some (by kernel_rfl))
 f216 := func247.trans (congrArg some (by kernel_rfl))
 f257 := func228.trans (congrArg some (by kernel_rfl))
 f294 := func241.trans (congrArg some (by kernel_rfl))
 f295 := func242.trans (congrArg some (by kernel_rfl))
 f296 := func243.trans (congrArg some (by kernel_rfl))
 f297 := func244.trans (congrArg some (by kernel_rfl))
 f298 := func245.trans (congrArg some (by kernel_rfl))
 f299 := func246.trans (congrArg some (by kernel_rfl))
 f300 := func248.trans (congrArg some (by kernel_rfl))
 f301 := func249.trans (congrArg some (by kernel_rfl))
 f328 := func257.trans (congrArg some (by kernel_rfl))
 f329 := func258.trans (congrArg some (by kernel_rfl))
 f330 := func259.trans (congrArg some (by kernel_rfl))
 f331 := func260.trans (congrArg some (by kernel_rfl))
 f332 := func261.trans (congrArg some (by kernel_rfl))
 f343 := func266.trans (congrArg some (by kernel_rfl))
 t0 := underlying0
 a0 := isAgg0
 z0 := sizeOf0
 v0 := zeroValue0
 t3 := underlying3
 a3 := isAgg3
 z3 := sizeOf3
 v3 := zeroValue3
 t4 := underlying4
 a4 := isAgg4
 z4 := sizeOf4
 v4 := zeroValue4
 t5 := underlying5
 a5 := isAgg5
 z5 := sizeOf5
 v5 := zeroValue5
 t9 := underlying9
 a9 := isAgg9
 z9 := sizeOf9
 v9 := zeroValue9
 t28 := underlying23
 a28 := isAgg23
 z28 := sizeOf23
 v28 := zeroValue23
 t46 := underlying240
 a46 := isAgg240
 z46 := sizeOf240
 v46 := zeroValue240
 t51 := underlying269
 a51 := isAgg269
 z51 := sizeOf269
 v51 := zeroValue269
 t53 := underlying232
 a53 := isAgg232
 z53 := sizeOf232
 v53 := zeroValue232
 t131 := underlying29
 a131 := isAgg29
 z131 := sizeOf29
 v131 := zeroValue29
 t182 := underlying287
 a182 := isAgg287
 z182 := sizeOf287
 v182 := zeroValue287
 t183 := underlying288
 a183 := isAgg288
 z183 := sizeOf288
 v183 := zeroValue288
 t218 := underlying301
 a218 := isAgg301
 z218 := sizeOf301
 v218 := zeroValue301
 t222 := underlying305
 a222 := isAgg305
 z222 := sizeOf305
 v222 := zeroValue305
 t228 := underlying318
 a228 := isAgg318
 z228 := sizeOf318
 v228 := zeroValue318
 t229 := underlying57
 a229 := isAgg57
 z229 := sizeOf57
 v229 := zeroValue57 }
open Go.Sort Go.RowKit in
theorem Tryz.slices_Sort_int (blk off cap : Nat) (zs : List Int) (w : World) (hH : Holds (Value.int .i64) w blk off zs.toArray) (hblk : blk < w.heap.size) (hsz : zs.length < 4611686018427387904) :
  Calls Tryz.prog 193 #[.slice (some ⟨blk, off, none⟩) zs.length cap] w fun e w' =>
   e = .returned (.tuple #[]) ∧ ∃ n os, w' = grow (putRow (Value.int .i64) (Sort.ahead w n) blk off (zs.mergeSort fun x y => decide (x ≤ y)).toArray) os := Any.slices_Sort_int Tryz.lays189 blk off cap zs w hH hblk hsz
def Tryz.lays200_ren : Go.Shelf.Ren := ⟨fun | 200 => 233 | 261 => 255 | 311 => 264 | 312 => 265 | n => n, fun | 21 => 21 | 4 => 4 | 51 => 269 | 5 => 5 | 119 => 296 | 0 => 0 | 141 => 298 | 196 => 310 | 193 => 307 | 3 => 3 | 198 => 313 | 49 => 311 | 194 => 308 | 201 => 316 | 226 => 320 | 46 => 240 | 227 => 321 | n => n, fun | 7 => 0 | 8 => 1 | n => n⟩
theorem Tryz.lays200 : Go.Proofs.Lays.n200 Tryz.prog Tryz.lays200_ren := {
 mixed := by kernel_rfl
 f200 := func233.trans (congrArg some (by kernel_rfl))
 f261 := func255.trans (congrArg some (by kernel_rfl))
 f311 := func264.trans (congrArg some (by kernel_rfl))
 f312 := func265.trans (congrArg some (by kernel_rfl))
 t0 := underlying0
 a0 := isAgg0
 z0 := sizeOf0
 v0 := zeroValue0
 t3 := underlying3
 a3 := isAgg3
 z3 := sizeOf3
 v3 := zeroValue3
 t4 := underlying4
 a4 := isAgg4
 z4 := sizeOf4
 v4 := zeroValue4
 t5 := underlying5
 a5 := isAgg5
 z5 := sizeOf5
 v5 := zeroValue5
 t21 := underlying21
 a21 := isAgg21
 z21 := sizeOf21
 v21 := zeroValue21
 t46 := underlying240
 a46 := isAgg240
 z46 := sizeOf240
 v46 := zeroValue240
 t49 := underlying311
 a49 := isAgg311
 z49 := sizeOf311
 v49 := zeroValue311
 t51 := underlying269
 a51 := isAgg269
 z51 := sizeOf269
 v51 := zeroValue269
 t119 := underlying296
 a119 := isAgg296
 z119 := sizeOf296
 t141 := underlying298
 a141 := isAgg298
 z141 := sizeOf298
 v141 := zeroValue298
 t193 := underlying307
 a193 := isAgg307
 z193 := sizeOf307
 v193 := zeroValue307
 t194 := underlying308
 a194 := isAgg308
 z194 := sizeOf308
 v194 := zeroValue308
 t196 := underlying310
 a196 := isAgg310
 z196 := sizeOf310
 v196 := zeroValue310
 t198 := underlying313
 a198 := isAgg313
 z198 := sizeOf313
 v198 := zeroValue313
 t201 := underlying316
 a201 := isAgg316
 z201 := sizeOf316
 v201 := zeroValue316
 t226 := underlying320
 a226 := isAgg320
 z226 := sizeOf320
 v226 := zeroValue320
 t227 := underlying321
 a227 := isAgg321
 z227 := sizeOf321
 v227 := zeroValue321
 g7 := by kernel_rfl
 g8 := by kernel_rfl }
def Tryz.lays264_ren : Go.Shelf.Ren := ⟨fun | 264 => 227 | n => n, fun | 53 => 232 | 46 => 240 | n => n, fun | n => n⟩
theorem Tryz.lays264 : Go.Proofs.Lays.n264 Tryz.prog Tryz.lays264_ren := {
 mixed := by kernel_rfl
 f264 := func227.trans (congrArg some (by kernel_rfl))
 t46 := underlying240
 a46 := isAgg240
 z46 := sizeOf240
 v46 := zeroValue240
 t53 := underlying232
 a53 := isAgg232
 z53 := sizeOf232
 v53 := zeroValue232 }
open Go.RowKit Go.Lib in
theorem Tryz.bits_Mul64 (x y : Nat) (hx : x < 18446744073709551616) (hy : y < 18446744073709551616) (w : World) :
  Calls Tryz.prog 227 #[.int .u64 x, .int .u64 y] w fun e w' => e = .returned (.tuple #[.int .u64 ((x * y / 18446744073709551616 : Nat) : Int), .int .u64 ((x * y % 18446744073709551616 : Nat) : Int)]) ∧ w' = w := Any.bits_Mul64 Tryz.lays264 x y hx hy w
def Tryz.lays212_ren : Go.Shelf.Ren := ⟨fun | 212 => 192 | 263 => 226 | 264 => 227 | n => n, fun | 46 => 240 | 51 => 269 | 146 => 270 | 53 => 232 | 148 => 272 | n => n, fun | n => n⟩
theorem Tryz.lays212 : Go.Proofs.Lays.n212 Tryz.prog Tryz.lays212_ren := {
 mixed := by kernel_rfl
 f212 := func192.trans (congrArg some (by kernel_rfl))
 f263 := func226.trans (congrArg some (by kernel_rfl))
 f264 := func227.trans (congrArg some (by kernel_rfl))
 t46 := underlying240
 a46 := isAgg240
 z46 := sizeOf240
 v46 := zeroValue240
 t51 := underlying269
 a51 := isAgg269
 z51 := sizeOf269
 v51 := zeroValue269
 t53 := underlying232
 a53 := isAgg232
 z53 := sizeOf232
 v53 := zeroValue232
 t146 := underlying270
 a146 := isAgg270
 z146 := sizeOf270
 v146 := zeroValue270
 t148 := underlying272
 a148 := isAgg272
 z148 := sizeOf272
 v148 := zeroValue272 }
open Go.RowKit Go.Lib in
theorem Tryz.bits_Mul (x y : Nat) (hx : x < 18446744073709551616) (hy : y < 18446744073709551616) (w : World) :
  Calls Tryz.prog 192 #[.int .u64 x, .int .u64 y] w fun e w' => e = .returned (.tuple #[.int .u64 ((x * y / 18446744073709551616 : Nat) : Int), .int .u64 ((x * y % 18446744073709551616 : Nat) : Int)]) ∧ w' = w := Any.bits_Mul Tryz.lays212 x y hx hy w
open Go.RowKit Go.Lib in
theorem Tryz.unicode_IsLetter_all (r : Int) (w : World) (hlo : -2147483648 ≤ r) (hhi : r ≤ 2147483647) (htab : Lib.TabIs Tryz.prog w "unicode.properties" .u8 Lib.propertiesTab) (hV : RVar 1 letterT w) :
  Calls Tryz.prog 233 #[.int .i32 r] w fun e w' => e = .returned (.bool (isLetterU r)) ∧ Below w.heap.size w w' := Any.unicode_IsLetter_all Tryz.lays200 (by kernel_rfl) r w hlo hhi htab hV
def Tryz.lays112_ren : Go.Shelf.Ren := ⟨fun | 112 => 225 | n => n, fun | 28 => 23 | 3 => 3 | 4 => 4 | 0 => 0 | n => n, fun | n => n⟩
theorem Tryz.lays112 : Go.Proofs.Lays.n112 Tryz.prog Tryz.lays112_ren := {
 mixed := by kernel_rfl
 f112 := func225.trans (congrArg some (by kernel_rfl))
 t0 := underlying0
 a0 := isAgg0
 z0 := sizeOf0
 v0 := zeroValue0
 t3 := underlying3
 a3 := isAgg3
 z3 := sizeOf3
 v3 := zeroValue3
 t4 := underlying4
 a4 := isAgg4
 z4 := sizeOf4
 v4 := zeroValue4
 t28 := underlying23
 a28 := isAgg23
 z28 := sizeOf23
 v28 := zeroValue23 }
open Go.RowKit Go.Lib Go.Sort in
theorem Tryz.slices_Reverse_int (blk off cap : Nat) (zs : List Int) (w : World) (hH : Holds (Value.int .i64) w blk off zs.toArray) (hsz : zs.length ≤ 9223372036854775807) :
  Calls Tryz.prog 225 #[.slice (some ⟨blk, off, none⟩) zs.length cap] w fun e w' => e = .returned (.tuple #[]) ∧ ∃ n, w' = putRow (Value.int .i64) (Sort.ahead w n) blk off zs.reverse.toArray := Any.slices_Reverse_int Tryz.lays112 blk off cap zs w hH hsz
open Go.RowKit Go.Lib Go.Sort in
theorem Tryz.slices_Reverse_int_empty (a : Option Addr) (cap : Nat) (w : World) :
  Calls Tryz.prog 225 #[.slice a 0 cap] w fun e w' => e = .returned (.tuple #[]) ∧ w' = w := Any.slices_Reverse_int_empty Tryz.lays112 a cap w
open Go.RowKit Go.Sort in
theorem Tryz.slices_Sort_int_none (p : Option Addr) (cap : Nat) (w : World) :
  Calls Tryz.prog 193 #[.slice p 0 cap] w fun e w' => e = .returned (.tuple #[]) ∧ w' = w := Any.slices_Sort_int_none Tryz.lays189 p cap w
end Go.Proofs
namespace Go.Proofs.YtjnpcfpecilejaaGreatDoor
open Go.Proofs.Tryz
open Go.Proofs
variable {E : World}
set_option maxRecDepth 20000
theorem reverse_own (l : List Int) (i : Nat) (T : TypeId) (hl : l.length ≤ 200000) : ACall Tryz.prog E 225 [.own i l.length] [(i, .grow 1 T (cI l))] fun r O => r = .tup [] ∧ O = [(i, .grow 1 T (cI l.reverse))] :=
 ACall.turned (g := List.reverse) (B := 200001) func225 rfl (by decide) (fun l => List.length_reverse) (fun blk cap zs w hH _ hz => (Tryz.slices_Reverse_int blk 0 cap zs w hH (by omega)).mono fun e w' ⟨h1, n, h2⟩ => ⟨h1, n, #[], by rw [h2, Go.Sort.grow_empty]⟩)
  (fun cap w => Tryz.slices_Reverse_int_empty none cap w) rfl (by omega)
theorem sort_own (l : List Int) (i : Nat) (T : TypeId) (hl : l.length ≤ 200000) : ACall Tryz.prog E 193 [.own i l.length] [(i, .grow 1 T (cI l))] fun r O => r = .tup [] ∧ O = [(i, .grow 1 T (cI (sortI l)))] :=
 ACall.turned (g := sortI) (B := 200001) func193 rfl (by decide) (fun l => (sortI_perm l).length_eq) (fun blk cap zs w hH hb hz => Tryz.slices_Sort_int blk 0 cap zs w hH hb (by omega))
  (fun cap w => Tryz.slices_Sort_int_none none cap w) rfl (by omega)
theorem AFun.ofSame {E : World} {P : Program} {f : FuncId} {fn : Func} {c : Code} {ars : List AV} {vs : List Value} {r : Value} {x : AV} (hf : P.funcs[f]? = some fn) (hb : fn.body = some c) (hn : fn.name ≠ "runtime.NumGoroutine") (has : ars = vs.map lit)
  (h : ∀ w, Calls P f vs.toArray w fun e w' => e = .returned r ∧ w' = w) (hr : ∀ I, RepV I x r) : AFun P E f ars x := fun I F w us h1 h2 => by
 subst has
 rw [lit_uns h1]
 refine Fn.ofCalls hf hb hn ?_
 exact (h w).mono fun e w' ⟨he, hw⟩ => ⟨_, he, I, x, [], .refl _, hr I, by rw [hw]; exact h2, rfl⟩
theorem mulw_spec (x y : Nat) (hx : x < 18446744073709551616) (hy : y < 18446744073709551616) : AFun Tryz.prog E 192 [.int .u64 (x : Int), .int .u64 (y : Int)] (.tup [.int .u64 ((x * y / 18446744073709551616 : Nat) : Int), .int .u64 ((x * y % 18446744073709551616 : Nat) : Int)]) :=
 AFun.ofSame (vs := [.int .u64 x, .int .u64 y]) func192 rfl (by decide) rfl (fun w => Tryz.bits_Mul x y hx hy w) (fun I => ⟨_, rfl, _, _, rfl, rfl, _, _, rfl, rfl, rfl⟩)
theorem mul64_spec (x y : Nat) (hx : x < 18446744073709551616) (hy : y < 18446744073709551616) : AFun Tryz.prog E 227 [.int .u64 (x : Int), .int .u64 (y : Int)] (.tup [.int .u64 ((x * y / 18446744073709551616 : Nat) : Int), .int .u64 ((x * y % 18446744073709551616 : Nat) : Int)]) :=
 AFun.ofSame (vs := [.int .u64 x, .int .u64 y]) func227 rfl (by decide) rfl (fun w => Tryz.bits_Mul64 x y hx hy w) (fun I => ⟨_, rfl, _, _, rfl, rfl, _, _, rfl, rfl, rfl⟩)
def vsR (v : Int) (n k : Nat) : List Value := List.replicate k (.int .i64 v) ++ List.replicate (n - k) (.int .i64 0)
theorem vsR_len {v : Int} {n k : Nat} (h : k ≤ n) : (vsR v n k).length = n := by unfold vsR; simp; omega
theorem vsR_take {v : Int} {n k q : Nat} (h : q ≤ k) : (vsR v n k).take q = List.replicate q (.int .i64 v) := by unfold vsR; rw [List.take_append_of_le_length (by simp; exact h), List.take_replicate, Nat.min_eq_left h]
theorem vsR_copy {v : Int} {n k q : Nat} (h : k + q ≤ n) : (vsR v n k).take k ++ List.replicate q (.int .i64 v) ++ (vsR v n k).drop (k + q) = vsR v n (k + q) := by
 rw [vsR_take (Nat.le_refl _)]
 unfold vsR
 rw [List.drop_append, List.drop_eq_nil_of_le (by simp), List.length_replicate, List.drop_replicate, List.replicate_append_replicate, List.nil_append]
 congr 2
 omega
theorem vsR_one {v : Int} {n k : Nat} : ∀ u ∈ vsR v n k, u.oneCell' = true := fun u hu => by
 unfold vsR at hu
 rcases List.mem_append.1 hu with h | h
 ·rw [List.eq_of_mem_replicate h]; rfl
 ·rw [List.eq_of_mem_replicate h]; rfl
theorem vsR_full (v : Int) (n : Nat) : (vsR v n n).map lit = cI (List.replicate n v) := by unfold vsR cI; simp [lit]
theorem fro_one {I : G} {k : IntKind} {v : Int} {x : Value} (h : RepV I (.fro 1 [[.int k v]]) x) : ∃ b off c, x = .slice (some ⟨b, off, none⟩) 1 c ∧ KAt I.k b off (.int k v) := by
 obtain ⟨a, n, c, e, hn, _, _, ⟨b, off, vs, ea, hl, hr, hk⟩, _⟩ := h
 obtain ⟨u, us, rfl, hu, _⟩ := hr
 have hu : u = .int k v := hu
 subst ea hu
 simp only [List.length_cons, List.length_nil] at hn
 subst hn
 exact ⟨b, off, c, e, by have := hk 0 _ rfl; simpa using this⟩
theorem srcFro {env : AEnv} {O : OL} {y : Operand} {k : IntKind} {v : Int} (hy : aev env y = .fro 1 [[.int k v]]) : ∀ I F ρ w, RepE I env ρ → SLA I O F E w → ∃ a sc, ev ρ y = .slice (some a) 1 sc ∧ ∀ j u, ([Value.int k v] : List Value)[j]? = some u → w.cell? (a.add j) = some u := fun I F ρ w h1 h2 => by
 have h := h1.ev y
 rw [hy] at h
 obtain ⟨b, off, c, e, hk⟩ := fro_one h
 obtain ⟨_, L, _, hS⟩ := h2
 refine ⟨⟨b, off, none⟩, c, e, fun j u hj => ?_⟩
 cases j with
 | zero => simp at hj; subst hj; rw [addr_add]; exact hS.at_ (hk.at_ _)
 | succ j => simp at hj
theorem srcRow {env : AEnv} {O O' : OL} {y : Operand} {b n c : Nat} {T : TypeId} {vs cs : List Value} (hy : aev env y = rsl b 0 n c) (hO : Pick O 0 (rowO b T vs) O') (hc : ∀ (j : Nat) u, cs[j]? = some u → vs[j]? = some u) : ∀ I F ρ w, RepE I env ρ → SLA I O F E w → ∃ a sc, ev ρ y = .slice (some a) n sc ∧ ∀ j u, cs[j]? = some u → w.cell? (a.add j) = some u := fun I F ρ w h1 h2 => by
 have h := evRaw h1 hy
 obtain ⟨_, L, hL, hS⟩ := h2
 obtain ⟨A, B, hp, hA, hB⟩ := hO.rep hL
 have hA : A = [(b, .cells vs.toArray T (0, 0))] := hA
 subst hA
 have hS2 : SL I.k ((b, .cells vs.toArray T (0, 0)) :: (B ++ F)) E w := hS.perm ((hp.append_right F).symm)
 refine ⟨⟨b, 0, none⟩, c, h, fun j u hj => ?_⟩
 rw [addr_add, hS2.cell_own, List.getElem?_toArray, Nat.zero_add]
 exact hc j u hj
theorem repeat_own (v : Int) (n : Nat) (hn : n ≤ 100000) (h0 : 0 < n) : ACall Tryz.prog E 142 [.fro 1 ([v].map encI), .int .i64 n] [] (fun x O' => ∃ i : Nat, x = .own i n ∧ O' = [(i, .grow 1 3 (cI (List.replicate n v)))]) := by
 have hw : IntKind.wrap .u64 (n : Int) = n := by unfold IntKind.wrap; simp [IntKind.bits, IntKind.signed]; omega
 have hm : (1 * n / 18446744073709551616 : Nat) = 0 := by omega
 have hm2 : (1 * n % 18446744073709551616 : Nat) = n := by omega
 refine zp func142 rfl (by decide) rfl ?_
 have hmul : AFun Tryz.prog E 192 [.int .u64 1, .int .u64 (IntKind.wrap .u64 (n : Int))] (.tup [.int .u64 0, .int .u64 (n : Int)]) := by
  have := mulw_spec (E := E) 1 n (by omega) (by omega)
  rw [hm, hm2] at this
  rw [hw]; exact this
 refine zb<|z7 rfl<|z2 (zy (v := .raw _) rfl)<|z6<|zb<|zb<|z7 rfl<|z2 (zMi rfl)<|z2 (yf rfl rfl)<|z6<|yg rfl (by simp)<|ze<|zb<|z7 rfl<|z2 (zMf rfl)<|z2 (y1 underlying23 rfl)<|z2 (Gv.conv underlying3 underlying240 rfl)<|z2 (zMi rfl)<|z2 (Gv.conv underlying3 underlying240 rfl)<|zi (hmul) rfl<|z2 (zq (v := .tup _) rfl)<|z2 (yh (v := .int _ _) rfl rfl)<|z2 (yh (v := .int _ _) rfl rfl)<|z2 (zAi rfl)<|z2 (zAi rfl)<|z6<|zb<|zb<|z7 rfl<|z2 (zMi rfl)<|z2 (yw rfl rfl)<|z2 (zMb rfl)<|za rfl rfl (by decide)<|z2 (zMi rfl)<|za rfl rfl (by decide)<|z2 (yw rfl rfl)<|z2 (zPf rfl (by decide) rfl)<|z6<|yg rfl (by simp; omega)<|ze<|zb ?_
 refine z7 rfl<|z2 (zMi rfl)<|z2 (Gv.conv underlying240 underlying3 rfl)<|AOps.makeRow (m := n) underlying23 Tryz.type3 rfl rfl rfl rfl rfl (by show IntKind.wrap .i64 (n : Int) = n; unfold IntKind.wrap; simp [IntKind.bits, IntKind.signed]; omega) (by show IntKind.wrap .i64 (n : Int) = n; unfold IntKind.wrap; simp [IntKind.bits, IntKind.signed]; omega) (by show (8 : Int) * _ ≤ _; omega) (by omega)<|fun b => z2 (zy (v := .raw _) rfl)<|z6<|zb<|z7 rfl<|z2 (zq (v := .raw _) rfl)<|z2 (zMf rfl)<|AOps.copyRow (cs := [.int .i64 v]) (q := 1) underlying23 rfl rfl rfl (Nat.min_eq_left h0).symm .head (by rw [List.length_replicate]; omega) (by simp [Value.oneCell']) (srcFro rfl) ?_
 have hstart : (List.replicate n (Value.int .i64 0)).take 0 ++ [Value.int .i64 v] ++ (List.replicate n (Value.int .i64 0)).drop (0 + 1) = vsR v n 1 := by unfold vsR; simp [List.drop_replicate]
 rw [hstart]
 refine z2 (zAi rfl)<|z6<|zb<|zh<|y8 (γ := Nat) [7] (fun k => [(8, .int .i64 k)]) (fun k => [(0, rowO b 3 (vsR v n k))]) (fun k => 1 ≤ k ∧ k ≤ n) (fun k => n - k) 1 zR1 zLe (⟨Nat.le_refl _, h0⟩) ?_
 rintro k ⟨hk1, hk⟩
 refine zb<|zb<|z7 rfl<|z2 (zMi rfl)<|z2 (zq (v := .raw _) rfl)<|z2 (Gv.lenRow underlying23 rfl)<|z2 (yf rfl rfl)<|z6<|zx rfl (fun ck => ?_) (fun ck => ?_)
 ·have hk2 : k < n := by simp at ck; omega
  obtain ⟨q, hq⟩ : ∃ q, q = min k (n - k) := ⟨_, rfl⟩
  have hq1 : 0 < q ∧ q ≤ k ∧ k + q ≤ n := by omega
  refine ze<|zh<|yc (fun j => false) (by kernel_rfl) rfl (zo (.rest _))<|zTk (i := 0) rfl (zMi rfl)<|zTk (i := 1) rfl (zq (v := .raw _) rfl)<|zTk (i := 2) rfl (zMi rfl)<|zTk (i := 3) rfl (Gv.rowLo (j := k) underlying23 sizeOf3 rfl rfl rfl (by omega) (by omega) (by omega))<|zTk (i := 4) rfl (zq (v := .raw _) rfl)<|zTk (i := 5) rfl (zMi rfl)<|zTk (i := 6) rfl (Gv.rowHi (j := k) underlying23 sizeOf3 rfl rfl rfl (by omega))<|zOn (i := 7) rfl<|AOps.copyRow (cs := List.replicate q (.int .i64 v)) (q := q) underlying23 rfl rfl (List.length_replicate ..) hq .head (by rw [vsR_len hk]; omega) (fun u hu => by rw [List.eq_of_mem_replicate hu]; rfl) (srcRow (vs := vsR v n k) rfl .head (fun j u hj => by rw [← vsR_take (v := v) (n := n) hq1.2.1, List.getElem?_take] at hj; split at hj; exact hj; cases hj)) ?_
  rw [vsR_copy hq1.2.2]
  refine z6<|zTk (i := 8) rfl (y9 rfl rfl (by unfold I64; omega))<|zTk (i := 9) rfl (zAi rfl)<|zDn ?_
  exact ⟨k + q, zR1, zR1, zLe, ⟨by omega, hq1.2.2⟩, by omega⟩
 ·have hkn : k = n := by simp at ck; omega
  subst hkn
  refine y7<|zb<|z7 rfl<|z2 (zq (v := .raw _) rfl)<|z2 (zy (v := .raw _) rfl)<|z6<|AWP.rowOwn (t := 4) rfl .head (vsR_len (Nat.le_refl _)) vsR_one (fun i => ?_)
  rw [vsR_full]
  refine zj<|zl (x := .own _ _) rfl ?_
  exact ⟨i, rfl, rfl⟩
end Go.Proofs.YtjnpcfpecilejaaGreatDoor
