/- The document's machine told as plain data, and what stays so in it. No conditions. -/
import Derived.Test.YtiojekbkamegdaaGreatDoorLf
import Derived.Test.YtiojekbkamegdaaGreatDoorLc
set_option linter.unusedVariables false
set_option linter.unusedSimpArgs false
set_option linter.unusedSectionVars false
namespace Go.Proofs.YtiojekbkamegdaaGreatDoor
abbrev DSt := List Bool × List Int × List (Int × Nat)
def gb (l : List Bool) (x : Int) : Bool := (l[x.toNat]?).getD false
def ge (l : List Int) (k : Nat) : Int := (l[k]?).getD 0
def dstep (E : Int → List Int) : DSt → DSt
 | (seen, out, []) => (seen, out, [])
 | (seen, out, (b, k) :: r) => if k = (E b).length then (seen, out ++ [b], r) else
   if gb seen (ge (E b) k) then (seen, out, (b, k + 1) :: r) else (seen.set (ge (E b) k).toNat true, out, (ge (E b) k, 0) :: (b, k + 1) :: r)
theorem dstep_cons (E : Int → List Int) (seen : List Bool) (out : List Int) (b : Int) (k : Nat) (r : List (Int × Nat)) : dstep E (seen, out, (b, k) :: r) = if k = (E b).length then (seen, out ++ [b], r) else
   if gb seen (ge (E b) k) then (seen, out, (b, k + 1) :: r) else (seen.set (ge (E b) k).toNat true, out, (ge (E b) k, 0) :: (b, k + 1) :: r) := rfl
def dfs0 (n : Nat) : DSt := ((List.replicate n false).set 0 true, [], [(0, 0)])
def dfsN (E : Int → List Int) (n : Nat) : Nat → DSt
 | 0 => dfs0 n
 | k + 1 => dstep E (dfsN E n k)
def orderT (E : Int → List Int) (n : Nat) : List Int := (dfsN E n (4 * n)).2.1.reverse
structure EOk (E : Int → List Int) (n : Nat) : Prop where
 npos : 0 < n
 rng : ∀ b : Int, 0 ≤ b → b < n → ∀ c ∈ E b, 0 ≤ c ∧ c < n
 len : ∀ b, (E b).length ≤ 2
def Led (E : Int → List Int) : List Int → List Int → Prop
 | [], _ => True
 | v :: r, s => (v = 0 ∨ ∃ p, v ∈ E p ∧ (p ∈ r ∨ p ∈ s)) ∧ Led E r s
structure DInv (E : Int → List Int) (n : Nat) (x : DSt) : Prop where
 len : x.1.length = n
 rng : ∀ v, v ∈ x.2.1 ++ x.2.2.map Prod.fst → 0 ≤ v ∧ v < n
 seen : ∀ v, 0 ≤ v → (gb x.1 v = true ↔ v ∈ x.2.1 ++ x.2.2.map Prod.fst)
 nodup : (x.2.1 ++ x.2.2.map Prod.fst).Nodup
 rch : ∀ v, v ∈ x.2.1 ++ x.2.2.map Prod.fst → Rch E v
 done : ∀ b ∈ x.2.1, ∀ c ∈ E b, c ∈ x.2.1 ++ x.2.2.map Prod.fst
 part : ∀ q ∈ x.2.2, q.2 ≤ (E q.1).length ∧ ∀ i, i < q.2 → ge (E q.1) i ∈ x.2.1 ++ x.2.2.map Prod.fst
 led : Led E (x.2.1 ++ x.2.2.map Prod.fst) []
 last : (x.2.1 ++ x.2.2.map Prod.fst).getLast? = some 0
theorem led_app {E : Int → List Int} : ∀ {l r s : List Int}, Led E (l ++ r) s ↔ Led E l (r ++ s) ∧ Led E r s
 | [], r, s => by simp [Led]
 | v :: l, r, s => by
  rw [List.cons_append, Led, Led, led_app (l := l)]
  constructor
  ·rintro ⟨h, h1, h2⟩
   refine ⟨⟨?_, h1⟩, h2⟩
   rcases h with h | ⟨p, h, h3⟩
   ·exact .inl h
   ·exact .inr ⟨p, h, by simp only [List.mem_append] at h3 ⊢; rcases h3 with (h3 | h3) | h3 <;> simp [h3]⟩
  ·rintro ⟨⟨h, h1⟩, h2⟩
   refine ⟨?_, h1, h2⟩
   rcases h with h | ⟨p, h, h3⟩
   ·exact .inl h
   ·exact .inr ⟨p, h, by simp only [List.mem_append] at h3 ⊢; rcases h3 with h3 | h3 | h3 <;> simp [h3]⟩
theorem gb_set {l : List Bool} {v : Int} (h0 : 0 ≤ v) (hl : v.toNat < l.length) {x : Int} (hx : 0 ≤ x) : gb (l.set v.toNat true) x = true ↔ x = v ∨ gb l x = true := by
 unfold gb
 by_cases e : x = v
 ·subst e; rw [List.getElem?_set_self hl]; simp
 ·rw [List.getElem?_set_ne (by omega)]; simp [e]
theorem DInv.begin {E : Int → List Int} {n : Nat} (hE : EOk E n) : DInv E n (dfs0 n) := by
 have hn := hE.npos
 refine ⟨by simp [dfs0], fun v hv => ?_, fun v hv => ?_, by simp [dfs0], fun v hv => ?_, fun b hb => by simp [dfs0] at hb, fun q hq => ?_, ⟨.inl rfl, trivial⟩, rfl⟩
 ·simp [dfs0] at hv; omega
 ·have := gb_set (l := List.replicate n false) (v := 0) (by omega) (by simp; exact hn) hv
  show gb ((List.replicate n false).set 0 true) v = true ↔ v ∈ [] ++ [0]
  rw [show (0 : Int).toNat = 0 from rfl] at this
  rw [this]
  have h2 : gb (List.replicate n false) v = false := by unfold gb; rw [List.getElem?_replicate]; split <;> rfl
  simp [h2]
 ·simp [dfs0] at hv; subst hv; exact .refl trivial
 ·simp [dfs0] at hq; subst hq; exact ⟨qt _, fun i hi => by omega⟩
theorem DInv.step {E : Int → List Int} {n : Nat} (hE : EOk E n) {x : DSt} (h : DInv E n x) : DInv E n (dstep E x) := by
 obtain ⟨seen, out, st⟩ := x
 cases st with
 | nil => exact h
 | cons q r =>
  obtain ⟨b, k⟩ := q
  obtain ⟨hlen, hrng, hseen, hnd, hrch, hdone, hpart, hled, hlast⟩ := h
  dsimp only at hlen hrng hseen hnd hrch hdone hpart hled hlast
  rw [List.map_cons] at hrng hseen hnd hrch hdone hpart hled hlast
  have hb := hpart (b, k) (.head _)
  dsimp only at hb
  rw [dstep_cons]
  by_cases hk : k = (E b).length
  ·rw [if_pos hk]
   have e : (out ++ [b]) ++ r.map Prod.fst = out ++ b :: r.map Prod.fst := by simp
   refine ⟨hlen, ?_, ?_, ?_, ?_, ?_, ?_, ?_, ?_⟩ <;> dsimp only <;> rw [e]
   ·exact hrng
   ·exact hseen
   ·exact hnd
   ·exact hrch
   ·intro c hc
    rcases List.mem_append.1 hc with hc | hc
    ·exact hdone c hc
    ·obtain rfl := List.mem_singleton.1 hc
     intro d hd
     obtain ⟨i, hi, rfl⟩ := List.mem_iff_getElem.1 hd
     have := hb.2 i (by omega)
     unfold ge at this
     rwa [qq hi] at this
   ·exact fun q hq => hpart q (.tail _ hq)
   ·exact hled
   ·exact hlast
  ·rw [if_neg hk]
   have hk2 : k < (E b).length := by omega
   have hge : ge (E b) k = (E b)[k] := by unfold ge; rw [qq hk2]; rfl
   have hmem : ge (E b) k ∈ E b := hge ▸ qu hk2
   obtain ⟨c, hc⟩ : ∃ c, ge (E b) k = c := ⟨_, rfl⟩
   rw [hc] at hmem ⊢
   have hbr := hrng b (by simp)
   have hcr := hE.rng b hbr.1 hbr.2 c hmem
   by_cases hs : gb seen c = true
   ·rw [if_pos hs]
    refine ⟨hlen, ?_, ?_, ?_, ?_, ?_, fun q hq => ?_, ?_, ?_⟩ <;> dsimp only <;> rw [List.map_cons]
    ·exact hrng
    ·exact hseen
    ·exact hnd
    ·exact hrch
    ·exact hdone
    ·rcases List.mem_cons.1 hq with rfl | hq
     ·refine ⟨hk2, fun i hi => ?_⟩
      by_cases e : i = k
      ·subst e; dsimp only; rw [hc]; exact (hseen c hcr.1).1 hs
      ·exact hb.2 i (by dsimp only at hi; omega)
     ·exact hpart q (.tail _ hq)
    ·exact hled
    ·exact hlast
   ·rw [if_neg hs]
    have hnm : c ∉ out ++ b :: r.map Prod.fst := fun hm => hs ((hseen c hcr.1).2 hm)
    have hmm : ∀ v, v ∈ out ++ (c :: b :: r.map Prod.fst) ↔ v = c ∨ v ∈ out ++ b :: r.map Prod.fst := fun v => by
     simp only [List.mem_append, List.mem_cons]
     constructor
     ·rintro (h | h | h | h) <;> simp [h]
     ·rintro (h | h | h | h) <;> simp [h]
    refine ⟨by dsimp only; rw [List.length_set]; exact hlen, ?_, fun v hv => ?_, ?_, ?_, ?_, fun q hq => ?_, ?_, ?_⟩ <;> dsimp only <;> rw [List.map_cons, List.map_cons]
    ·intro v hv
     rcases (hmm v).1 hv with rfl | hv
     ·exact hcr
     ·exact hrng v hv
    ·rw [gb_set hcr.1 (by omega) hv, hmm, hseen v hv]
    ·have : (out ++ c :: b :: r.map Prod.fst).Perm (c :: (out ++ b :: r.map Prod.fst)) := List.perm_middle
     rw [this.nodup_iff, List.nodup_cons]
     exact ⟨hnm, hnd⟩
    ·intro v hv
     rcases (hmm v).1 hv with rfl | hv
     ·exact .step (hrch b (by simp)) hmem trivial
     ·exact hrch v hv
    ·exact fun a ha d hd => (hmm d).2 (.inr (hdone a ha d hd))
    ·rcases List.mem_cons.1 hq with rfl | hq
     ·exact ⟨qt _, fun i hi => by dsimp only at hi; omega⟩
     ·rcases List.mem_cons.1 hq with rfl | hq
      ·refine ⟨hk2, fun i hi => (hmm _).2 ?_⟩
       by_cases e : i = k
       ·subst e; left; exact hc
       ·exact .inr (hb.2 i (by dsimp only at hi; omega))
      ·exact ⟨(hpart q (.tail _ hq)).1, fun i hi => (hmm _).2 (.inr ((hpart q (.tail _ hq)).2 i hi))⟩
    ·rw [led_app] at hled ⊢
     refine ⟨?_, .inr ⟨b, hmem, .inl (.head _)⟩, hled.2⟩
     have weak : ∀ (l s t : List Int), (∀ x ∈ s, x ∈ t) → Led E l s → Led E l t := fun l s t hst => by
      induction l with
      | nil => exact fun _ => trivial
      | cons v l ih =>
       rintro ⟨h1, h2⟩
       refine ⟨?_, ih h2⟩
       rcases h1 with h1 | ⟨p, h1, h3⟩
       ·exact .inl h1
       ·exact .inr ⟨p, h1, h3.imp id (hst p)⟩
     exact weak _ _ _ (fun x hx => by simp only [List.append_nil] at hx ⊢; exact .tail _ hx) hled.1
    ·rw [List.getLast?_append, List.getLast?_cons_cons] 
     rw [List.getLast?_append] at hlast
     exact hlast
def dleft (x : DSt) : Nat := 4 * (x.1.filter (fun b => !b)).length + (x.2.2.map fun q => 3 - q.2).sum
theorem unseen_set : ∀ (l : List Bool) (i : Nat), l[i]? = some false → ((l.set i true).filter (fun b => !b)).length + 1 = (l.filter (fun b => !b)).length
 | [], i, h => by simp at h
 | b :: l, 0, h => by simp at h; subst h; simp
 | b :: l, i + 1, h => by
  have := unseen_set l i (by simpa using h)
  cases b <;> simp <;> omega
theorem DInv.less {E : Int → List Int} {n : Nat} (hE : EOk E n) {x : DSt} (h : DInv E n x) (hs : x.2.2 ≠ []) : dleft (dstep E x) < dleft x := by
 obtain ⟨seen, out, st⟩ := x
 cases st with
 | nil => exact absurd rfl hs
 | cons q r =>
  obtain ⟨b, k⟩ := q
  have hb := h.part (b, k) (.head _)
  have hl2 := hE.len b
  have hbr := h.rng b (by simp)
  dsimp only at hb
  rw [dstep_cons]
  unfold dleft
  by_cases hk : k = (E b).length
  ·rw [if_pos hk]; simp; omega
  ·rw [if_neg hk]
   have hk2 : k < (E b).length := by omega
   have hge : ge (E b) k = (E b)[k] := by unfold ge; rw [qq hk2]; rfl
   have hcr := hE.rng b hbr.1 hbr.2 _ (hge ▸ qu hk2)
   split
   ·simp; omega
   ·rename_i hg
    have hlt : (ge (E b) k).toNat < seen.length := by have := h.len; dsimp only at this; omega
    have := unseen_set seen (ge (E b) k).toNat (by
     unfold gb at hg
     rw [qq hlt] at hg ⊢
     simpa using hg)
    simp; omega
theorem dstep_end {E : Int → List Int} {x : DSt} (h : x.2.2 = []) : dstep E x = x := by
 obtain ⟨seen, out, st⟩ := x
 dsimp only at h
 subst h; rfl
section
variable {E : Int → List Int} {n : Nat} (hE : EOk E n)
include hE
theorem dfsN_inv : ∀ k, DInv E n (dfsN E n k)
 | 0 => DInv.begin hE
 | k + 1 => (dfsN_inv k).step hE
theorem dleft0 : dleft (dfs0 n) < 4 * n := by
 have hn := hE.npos
 have := unseen_set (List.replicate n false) 0 (by rw [List.getElem?_replicate, if_pos hn])
 have h2 : ((List.replicate n false).filter fun b => !b).length = n := by simp
 unfold dleft dfs0
 simp at this ⊢
 omega
theorem dfs_left : ∀ k, (dfsN E n k).2.2 = [] ∨ dleft (dfsN E n k) + k < 4 * n
 | 0 => .inr (by have := dleft0 hE; simpa [dfsN] using this)
 | k + 1 => by
  rcases dfs_left k with h | h
  ·left; rw [dfsN, dstep_end h]; exact h
  ·by_cases hs : (dfsN E n k).2.2 = []
   ·left; rw [dfsN, dstep_end hs]; exact hs
   ·right
    have := (dfsN_inv hE k).less hE hs
    rw [dfsN]; omega
theorem dfs_end : (dfsN E n (4 * n)).2.2 = [] := by
 rcases dfs_left hE (4 * n) with h | h
 ·exact h
 ·omega
omit hE in
theorem dfs_still {k : Nat} (h : (dfsN E n k).2.2 = []) (hk : k ≤ 4 * n) : dfsN E n (4 * n) = dfsN E n k := by
 have : ∀ j, dfsN E n (k + j) = dfsN E n k := fun j => by
  induction j with
  | zero => rfl
  | succ j ih => rw [← Nat.add_assoc, dfsN, ih, dstep_end h]
 have h2 := this (4 * n - k)
 rwa [show k + (4 * n - k) = 4 * n by omega] at h2
theorem order_mem (v : Int) : v ∈ orderT E n ↔ Rch E v := by
 have h := dfsN_inv hE (4 * n)
 have he := dfs_end hE
 unfold orderT
 obtain ⟨hlen, hrng, hseen, hnd, hrch, hdone, hpart, hled, hlast⟩ := h
 rw [he] at hrng hseen hnd hrch hdone hpart hled hlast
 simp only [List.map_nil, List.append_nil] at hrng hseen hnd hrch hdone hpart hled hlast
 rw [List.mem_reverse]
 refine ⟨hrch v, fun hr=>?_⟩
 unfold Rch at hr
 induction hr with
 | refl _ => exact List.mem_of_getLast? hlast
 | step _ h1 _ ih => exact hdone _ ih _ h1
theorem order_rng {v : Int} (hv : v ∈ orderT E n) : 0 ≤ v ∧ v < n := by
 have h := (dfsN_inv hE (4 * n)).rng
 exact h v (List.mem_append_left _ (by unfold orderT at hv; exact List.mem_reverse.1 hv))
theorem order_nodup : (orderT E n).Nodup := by
 have h := (dfsN_inv hE (4 * n)).nodup
 rw [dfs_end hE] at h
 unfold orderT
 rw [(List.reverse_perm _).nodup_iff]
 simpa using h
theorem order_head : (orderT E n)[0]? = some 0 := by
 have h := (dfsN_inv hE (4 * n)).last
 rw [dfs_end hE] at h
 unfold orderT
 rw [← List.head?_eq_getElem?, List.head?_reverse]
 simpa using h
theorem order_led (k : Nat) (v : Int) (hk : (orderT E n)[k]? = some v) (h0 : v ≠ 0) : ∃ (j : Nat) (p : Int), j < k ∧ (orderT E n)[j]? = some p ∧ v ∈ E p := by
 have h := (dfsN_inv hE (4 * n)).led
 rw [dfs_end hE] at h
 simp only [List.map_nil, List.append_nil] at h
 unfold orderT at hk ⊢
 generalize (dfsN E n (4 * n)).2.1 = out at h hk ⊢
 have key : ∀ (out : List Int), Led E out [] → ∀ k, out.reverse[k]? = some v → ∃ (j : Nat) (p : Int), j < k ∧ out.reverse[j]? = some p ∧ v ∈ E p := fun out => by
  induction out with
  | nil => intro _ k hk; simp at hk
  | cons w out ih =>
   rintro ⟨h1, h2⟩ k hk
   rw [List.reverse_cons] at hk ⊢
   by_cases hlt : k < out.reverse.length
   ·rw [List.getElem?_append_left hlt] at hk
    obtain ⟨j, p, h3, h4, h5⟩ := ih h2 k hk
    exact ⟨j, p, h3, by rw [List.getElem?_append_left (by omega)]; exact h4, h5⟩
   ·rw [List.getElem?_append_right (by omega)] at hk
    have hk0 : k = out.reverse.length ∧ w = v := by
     cases hq : k - out.reverse.length with
     | zero => rw [hq] at hk; simp at hk; exact ⟨by omega, hk⟩
     | succ q => rw [hq] at hk; simp at hk
    obtain ⟨rfl, rfl⟩ := hk0
    rcases h1 with h1 | ⟨p, h1, h3⟩
    ·exact absurd h1 h0
    ·have h3 : p ∈ out.reverse := by simpa using h3
     obtain ⟨j, hj, e⟩ := List.mem_iff_getElem.1 h3
     exact ⟨j, p, hj, by rw [List.getElem?_append_left hj, qq hj, e], h1⟩
 exact key out h k hk
end
end Go.Proofs.YtiojekbkamegdaaGreatDoor
namespace Go.Proofs.YtiojekbkamegdaaGreatDoor
def intsTo (n : Nat) : List Int := (List.range n).map Int.ofNat
theorem intsTo_get {n k : Nat} (h : k < n) : (intsTo n)[k]? = some (k : Int) := by unfold intsTo; rw [qy, List.getElem?_range h]; rfl
theorem intsTo_len (n : Nat) : (intsTo n).length = n := by simp [intsTo]
theorem mem_intsTo {n : Nat} {x : Int} : x ∈ intsTo n ↔ 0 ≤ x ∧ x < n := by
 unfold intsTo
 rw [List.mem_map]
 constructor
 ·rintro ⟨k, hk, rfl⟩; have := List.mem_range.1 hk; exact ⟨Int.natCast_nonneg k, Int.ofNat_lt.2 this⟩
 ·rintro ⟨h0, h1⟩; exact ⟨x.toNat, List.mem_range.2 (by omega), w8 h0⟩
theorem intsTo_succ (n : Nat) : intsTo (n + 1) = intsTo n ++ [(n : Int)] := by unfold intsTo; rw [List.range_succ, w2]; rfl
def predsT (E : Int → List Int) (n : Nat) (b : Int) : List Int := (intsTo n).flatMap fun i => ((E i).filter fun c => decide (c = b)).map fun _ => i
theorem mem_predsT {E : Int → List Int} {n : Nat} {b p : Int} (hE : EOk E n) (ho : ∀ x : Int, ¬ (0 ≤ x ∧ x < n) → E x = []) : p ∈ predsT E n b ↔ b ∈ E p := by
 unfold predsT
 rw [List.mem_flatMap]
 constructor
 ·rintro ⟨i, hi, h⟩
  obtain ⟨c, hc, rfl⟩ := List.mem_map.1 h
  obtain ⟨h1, h2⟩ := List.mem_filter.1 hc
  have h2 : c = b := by simpa using h2
  exact h2 ▸ h1
 ·intro h
  have hp : 0 ≤ p ∧ p < n := Classical.byContradiction fun hn => by rw [ho p hn] at h; cases h
  exact ⟨p, mem_intsTo.2 hp, List.mem_map.2 ⟨b, List.mem_filter.2 ⟨h, by simp⟩, rfl⟩⟩
theorem set_gi {l : List Int} {b : Int} (h0 : 0 ≤ b) (h : b.toNat < l.length) (m x : Int) : gi (l.set b.toNat m) x = if x = b then m else gi l x := by rw [gi_set h0 h]; rfl
theorem atOf_aux (n : Nat) : ∀ (W : List Int) (i : Nat) (l : List Int), l.length = n → W.Nodup → (∀ b ∈ W, 0 ≤ b ∧ b < n) →
  ((W.zipIdx i).foldl (fun l p => l.set p.1.toNat (p.2 : Int)) l).length = n ∧ (∀ (k : Nat) b, W[k]? = some b → gi ((W.zipIdx i).foldl (fun l p => l.set p.1.toNat (p.2 : Int)) l) b = ((i + k : Nat) : Int)) ∧
  ∀ b, b ∉ W → gi ((W.zipIdx i).foldl (fun l p => l.set p.1.toNat (p.2 : Int)) l) b = gi l b
 | [], i, l, hl, _, _ => ⟨hl, fun k b h => by simp at h, fun b _ => rfl⟩
 | v :: W, i, l, hl, hW, hr => by
  rw [List.zipIdx_cons, List.foldl_cons]
  rw [List.nodup_cons] at hW
  have hv := hr v (.head _)
  obtain ⟨g1, g2, g3⟩ := atOf_aux n W (i + 1) (l.set v.toNat (i : Int)) (by rw [List.length_set]; exact hl) hW.2 fun b hb => hr b (.tail _ hb)
  refine ⟨g1, fun k b h => ?_, fun b hb => ?_⟩
  ·cases k with
   | zero =>
    simp at h; subst h
    rw [g3 _ hW.1, set_gi hv.1 (by omega), if_pos rfl]; rfl
   | succ k =>
    rw [g2 k b (by simpa using h)]; omega
  ·rw [g3 b (fun h => hb (.tail _ h)), set_gi hv.1 (by omega), if_neg (fun e => hb (by rw [e]; exact .head _))]
theorem gi_rep (n : Nat) (x : Int) : gi (List.replicate n (-1)) x = -1 := by
 unfold gi; split
 ·rw [List.getElem?_replicate]; split <;> rfl
 ·rfl
structure Grph (E : Int → List Int) (n : Nat) : Prop extends EOk E n where
 out : ∀ x : Int, ¬ (0 ≤ x ∧ x < n) → E x = []
section
variable {E : Int → List Int} {n : Nat} (hE : Grph E n)
include hE
theorem at_row {k : Nat} {b : Int} (h : (orderT E n)[k]? = some b) : gi (atOf n (orderT E n)) b = k := by
 have := (atOf_aux n (orderT E n) 0 (List.replicate n (-1)) (by simp) (order_nodup hE.toEOk) fun b hb => order_rng hE.toEOk hb).2.1 k b h
 rw [Nat.zero_add] at this
 exact this
theorem at_none {b : Int} (h : b ∉ orderT E n) : gi (atOf n (orderT E n)) b = -1 := by
 have := (atOf_aux n (orderT E n) 0 (List.replicate n (-1)) (by simp) (order_nodup hE.toEOk) fun b hb => order_rng hE.toEOk hb).2.2 b h
 rw [gi_rep] at this
 exact this
theorem Grph.gok : GOk E (atOf n (orderT E n)) (orderT E n) (predsT E n) n := by
 have hpos : ∀ b, b ∈ orderT E n ↔ 0 ≤ gi (atOf n (orderT E n)) b := fun b => by
  constructor
  ·intro hb
   obtain ⟨k, hk, e⟩ := List.mem_iff_getElem.1 hb
   rw [at_row hE (k := k) (by rw [qq hk, e])]; omega
  ·intro h
   refine Classical.byContradiction fun hb=>?_
   rw [at_none hE hb] at h; omega
 refine ⟨⟨order_mem hE.toEOk, hpos, fun a b ha hb e => ?_, at_row hE (k := 0) (order_head hE.toEOk), fun b hb h0 => ?_, fun b hb => at_none hE hb, fun b hb => (order_rng hE.toEOk hb).1⟩, fun b hb => (order_rng hE.toEOk hb).2, fun k hk => ?_, fun b _ p => mem_predsT hE.toEOk hE.out⟩
 ·obtain ⟨j, hj, e1⟩ := List.mem_iff_getElem.1 ha
  obtain ⟨k, hk, e2⟩ := List.mem_iff_getElem.1 hb
  rw [at_row hE (k := j) (by rw [qq hj, e1]), at_row hE (k := k) (by rw [qq hk, e2])] at e
  have : j = k := by omega
  subst this
  rw [← e1, ← e2]
 ·obtain ⟨k, hk, e⟩ := List.mem_iff_getElem.1 hb
  obtain ⟨j, p, h1, h2, h3⟩ := order_led hE.toEOk k b (by rw [qq hk, e]) h0
  refine ⟨p, ?_, h3, ?_⟩
  ·obtain ⟨hj, e2⟩ := List.getElem?_eq_some_iff.1 h2
   exact e2 ▸ qu hj
  ·rw [at_row hE h2, at_row hE (k := k) (by rw [qq hk, e])]; omega
 ·rw [qq hk]
  exact at_row hE (qq hk)
end
def nearG (E : Int → List Int) (n : Nat) : List Int := nearT (atOf n (orderT E n)) (orderT E n) (predsT E n) n
theorem nearG_len (E : Int → List Int) (n : Nat) : (nearG E n).length = n := by unfold nearG nearT; rw [passN_len]; simp [first0]
def levS (N l : List Int) (b : Int) : List Int := l.set b.toNat (gi l (gi N b) + 1)
def levG (E : Int → List Int) (n : Nat) : List Int := (orderT E n).tail.foldl (levS (nearG E n)) (first0 n)
theorem levS_len (N l : List Int) (b : Int) : (levS N l b).length = l.length := by unfold levS; rw [List.length_set]
section
variable {E : Int → List Int} {n : Nat} (hE : Grph E n)
include hE
theorem Grph.exact : Exact E (gi (atOf n (orderT E n))) (orderT E n) (gi (nearG E n)) := hE.gok.near
theorem Grph.near_mem {b : Int} (hb : b ∈ orderT E n) (h0 : b ≠ 0) : gi (nearG E n) b ∈ orderT E n ∧ gi (atOf n (orderT E n)) (gi (nearG E n) b) < gi (atOf n (orderT E n)) b := by
 have := hE.exact.inv.near b h0 (hE.exact.has b hb)
 exact ⟨this.1, this.2.2⟩
structure LInv (E : Int → List Int) (n : Nat) (l : List Int) (k : Nat) : Prop where
 len : l.length = n
 zero : gi l 0 = 0
 row : ∀ b ∈ orderT E n, b ≠ 0 → gi (atOf n (orderT E n)) b < k → gi l b = gi l (gi (nearG E n) b) + 1 ∧ 0 ≤ gi l b
 none : ∀ b, (b ∈ orderT E n → (k : Int) ≤ gi (atOf n (orderT E n)) b) → b ≠ 0 → gi l b = -1
omit hE in
theorem first0_len (n : Nat) : (first0 n).length = n := by simp [first0]
theorem LInv.first : LInv E n (first0 n) 1 := by
 have hn := hE.npos
 refine ⟨first0_len n, by rw [first_gi hn]; rfl, fun b hb h0 hlt => ?_, fun b _ h0 => by rw [first_gi hn]; simp [h0]⟩
 have h1 := hE.gok.ord
 have : b = 0 := h1.inj b 0 hb h1.zmem (by rw [h1.zero]; have := (h1.pos b).1 hb; omega)
 exact absurd this h0
theorem LInv.step {l : List Int} {k : Nat} {b : Int} (hk : 0 < k) (hb : (orderT E n)[k]? = some b) (h : LInv E n l k) : LInv E n (levS (nearG E n) l b) (k + 1) := by
 have ho := hE.gok.ord
 obtain ⟨hk2, e⟩ := List.getElem?_eq_some_iff.1 hb
 have hbm : b ∈ orderT E n := e ▸ qu hk2
 have hat := at_row hE hb
 have hb0 : b ≠ 0 := fun e2 => by rw [e2, ho.zero] at hat; omega
 have hr := order_rng hE.toEOk hbm
 have hnr := hE.near_mem hbm hb0
 have hnb : gi (nearG E n) b ≠ b := fun e2 => by rw [e2] at hnr; omega
 have hlen := h.len
 have hst : ∀ x, gi (levS (nearG E n) l b) x = if x = b then gi l (gi (nearG E n) b) + 1 else gi l x := fun x => set_gi hr.1 (by omega) _ x
 refine ⟨by rw [levS_len]; exact h.len, by rw [hst, if_neg hb0.symm]; exact h.zero, fun x hx h0 hlt => ?_, fun x hx h0 => ?_⟩
 ·by_cases ex : x = b
  ·subst ex
   rw [hst, if_pos rfl, hst, if_neg hnb]
   refine ⟨Z, ?_⟩
   by_cases hn0 : gi (nearG E n) x = 0
   ·rw [hn0, h.zero]; omega
   ·have := (h.row _ hnr.1 hn0 (by omega)).2; omega
  ·have hlt2 : gi (atOf n (orderT E n)) x < k := by
    have : gi (atOf n (orderT E n)) x ≠ gi (atOf n (orderT E n)) b := fun e2 => ex (ho.inj x b hx hbm e2)
    omega
   have hnx := hE.near_mem hx h0
   have hne : gi (nearG E n) x ≠ b := fun e2 => by rw [e2] at hnx; omega
   rw [hst, if_neg ex, hst, if_neg hne]
   exact h.row x hx h0 hlt2
 ·have ex : x ≠ b := fun e2 => by subst e2; have := hx hbm; omega
  rw [hst, if_neg ex]
  exact h.none x (fun hm => by have := hx hm; omega) h0
theorem LInv.fold : ∀ (bs : List Int) (k : Nat) (l : List Int), 0 < k → (orderT E n).drop k = bs → LInv E n l k → LInv E n (bs.foldl (levS (nearG E n)) l) (max k (orderT E n).length)
 | [], k, l, hk, hd, h => by
  have : (orderT E n).length ≤ k := by have := congrArg List.length hd; simp at this; omega
  rw [Nat.max_eq_left this]; exact h
 | b :: bs, k, l, hk, hd, h => by
  have hk2 : k < (orderT E n).length := by have := congrArg List.length hd; simp at this; omega
  have hb : (orderT E n)[k]? = some b := by have := congrArg (fun z : List Int => z[0]?) hd; simpa using this
  have := LInv.fold bs (k + 1) _ (by omega) (by rw [← List.drop_drop, hd]; rfl) (h.step hE hk hb)
  rw [List.foldl_cons]
  rwa [show max (k + 1) (orderT E n).length = max k (orderT E n).length by omega] at this
theorem Grph.lev : LInv E n (levG E n) (orderT E n).length := by
 have := LInv.fold hE (orderT E n).tail 1 _ (by omega) (by rw [List.drop_one]) (LInv.first hE)
 rwa [Nat.max_eq_right hE.gok.pos] at this
theorem Grph.at_lt {b : Int} (hb : b ∈ orderT E n) : gi (atOf n (orderT E n)) b < (orderT E n).length := by
 obtain ⟨k, hk, _, e⟩ := hE.gok.at_lt hb
 rw [e]; omega
theorem Grph.lev_near {b : Int} (hb : b ∈ orderT E n) (h0 : b ≠ 0) : gi (levG E n) b = gi (levG E n) (gi (nearG E n) b) + 1 := (hE.lev.row b hb h0 (hE.at_lt hb)).1
theorem Grph.lev_nn {b : Int} (hb : b ∈ orderT E n) : 0 ≤ gi (levG E n) b := by
 by_cases h0 : b = 0
 ·rw [h0, hE.lev.zero]; omega
 ·exact (hE.lev.row b hb h0 (hE.at_lt hb)).2
theorem Grph.lev_none {b : Int} (hb : b ∉ orderT E n) : gi (levG E n) b = -1 := hE.lev.none b (fun h => absurd h hb) (fun e => hb (by rw [e]; exact hE.gok.ord.zmem))
theorem Grph.lev_mem (b : Int) : gi (levG E n) b ≠ -1 ↔ b ∈ orderT E n := by
 refine ⟨fun h => Classical.byContradiction fun hb => h (hE.lev_none hb), fun hb h => ?_⟩
 have := hE.lev_nn hb; omega
theorem Grph.lev_anc {b a : Int} (hb : b ∈ orderT E n) (h : Anc (gi (nearG E n)) b a) : a ∈ orderT E n ∧ gi (levG E n) a ≤ gi (levG E n) b ∧ (gi (levG E n) b ≤ gi (levG E n) a → a = b) := by
 induction h with
 | refl b => exact ⟨hb, Int.le_refl _, fun _ => rfl⟩
 | @up x a h1 h2 h3 ih =>
  obtain ⟨g1, g2, g3⟩ := ih (hE.near_mem hb h1).1
  have := hE.lev_near hb h1
  exact ⟨g1, by omega, fun _ => by omega⟩
theorem Grph.dom_iff {a b : Int} (hb : b ∈ orderT E n) : Dom E a b ↔ Anc (gi (nearG E n)) b a := (hE.exact.anc b a hb).symm
end
def chainL (N : List Int) : Nat → Int → List Int
 | 0, _ => []
 | k + 1, b => b :: if b = 0 then [] else chainL N k (gi N b)
def domB (E : Int → List Int) (n : Nat) (a b : Int) : Bool := decide (gi (levG E n) b ≠ -1) && (chainL (nearG E n) n b).contains a
section
variable {E : Int → List Int} {n : Nat} (hE : Grph E n)
include hE
theorem chain_mem {a : Int} : ∀ (k : Nat) (b : Int), b ∈ orderT E n → gi (levG E n) b < k → (a ∈ chainL (nearG E n) k b ↔ Anc (gi (nearG E n)) b a)
 | 0, b, hb, hk => by have := hE.lev_nn hb; omega
 | k + 1, b, hb, hk => by
  unfold chainL
  rw [List.mem_cons]
  by_cases h0 : b = 0
  ·rw [if_pos h0]
   constructor
   ·rintro (h | h)
    ·subst h; exact .refl _
    ·cases h
   ·intro h
    rcases h.cases' with e | ⟨h1, _⟩
    ·exact .inl e
    ·exact absurd h0 h1
  ·rw [if_neg h0]
   have h1 := hE.near_mem hb h0
   have h2 := hE.lev_near hb h0
   rw [chain_mem k _ h1.1 (by omega)]
   constructor
   ·rintro (h | h)
    ·subst h; exact .refl _
    ·exact .up h0 (hE.exact.has b hb) h
   ·intro h
    rcases h.cases' with e | ⟨_, _, h3⟩
    ·exact .inl e
    ·exact .inr h3
theorem lev_lt {b : Int} (hb : b ∈ orderT E n) : gi (levG E n) b ≤ gi (atOf n (orderT E n)) b := by
 obtain ⟨k, hk⟩ : ∃ k : Nat, gi (atOf n (orderT E n)) b ≤ k := ⟨(gi (atOf n (orderT E n)) b).toNat, by omega⟩
 induction k generalizing b with
 | zero =>
  have ho := hE.gok.ord
  have : b = 0 := ho.inj b 0 hb ho.zmem (by rw [ho.zero]; have := (ho.pos b).1 hb; omega)
  rw [this, hE.lev.zero, ho.zero]; omega
 | succ k ih =>
  by_cases h0 : b = 0
  ·rw [h0, hE.lev.zero, hE.gok.ord.zero]; omega
  ·have h1 := hE.near_mem hb h0
   have h2 := hE.lev_near hb h0
   have := ih h1.1 (by omega)
   omega
omit hE in
theorem nodup_len : ∀ (l m : List Int), l.Nodup → (∀ x ∈ l, x ∈ m) → l.length ≤ m.length
 | [], _, _, _ => qt _
 | x :: l, m, h1, h2 => by
  rw [List.nodup_cons] at h1
  have hx := h2 x (.head _)
  have := nodup_len l (m.erase x) h1.2 fun y hy => (List.mem_erase_of_ne (fun e => h1.1 (by rw [← e]; exact hy))).2 (h2 y (.tail _ hy))
  have hp := List.length_pos_of_mem hx
  rw [List.length_erase_of_mem hx] at this
  rw [List.length_cons]; omega
theorem order_len : (orderT E n).length ≤ n := by
 have h1 := order_nodup hE.toEOk
 have h2 : ∀ x ∈ orderT E n, x ∈ intsTo n := fun x hx => mem_intsTo.2 (order_rng hE.toEOk hx)
 have := nodup_len _ _ h1 h2
 rwa [intsTo_len] at this
theorem Grph.domB_iff (a b : Int) : domB E n a b = true ↔ Dom E a b := by
 unfold domB
 rw [w6, decide_eq_true_iff, hE.lev_mem]
 constructor
 ·rintro ⟨hb, h⟩
  have h1 := lev_lt hE hb
  have h2 := hE.at_lt hb
  have h3 := order_len hE
  exact (hE.dom_iff hb).2 ((chain_mem hE n b hb (by omega)).1 (by simpa using h))
 ·intro h
  have hb := (order_mem hE.toEOk b).2 h.1
  have h1 := lev_lt hE hb
  have h2 := hE.at_lt hb
  have h3 := order_len hE
  exact ⟨hb, by simpa using (chain_mem hE n b hb (by omega)).2 ((hE.dom_iff hb).1 h)⟩
end
end Go.Proofs.YtiojekbkamegdaaGreatDoor
namespace Go.Proofs.YtiojekbkamegdaaGreatDoor
def endsL (t : PTerm) : List Int := if t.kind = 0 then [t.to0] else if t.kind = 1 then (if t.to0 = t.to1 then [t.to0] else [t.to0, t.to1]) else []
theorem endsL_len (t : PTerm) : (endsL t).length ≤ 2 := by unfold endsL; split <;> (try split) <;> (try split) <;> simp
theorem endsL_nodup (t : PTerm) : (endsL t).Nodup := by
 unfold endsL
 split
 ·simp
 ·split
  ·split <;> simp_all
  ·simp
def EndsOf (f : PFunc) (b : Int) : List Int := if 0 ≤ b then ((f.blocks[b.toNat]?).map fun c => endsL c.term).getD [] else []
theorem EndsOf_nat {f : PFunc} {k : Nat} (h : k < f.blocks.length) : EndsOf f (k : Int) = endsL f.blocks[k].term := by
 unfold EndsOf; rw [if_pos (by omega)]
 rw [show ((k : Int).toNat) = k from rfl, qq h]; rfl
theorem EndsOf_get {f : PFunc} {b : Int} (h0 : 0 ≤ b) (h : b.toNat < f.blocks.length) : EndsOf f b = endsL f.blocks[b.toNat].term := by
 unfold EndsOf; rw [if_pos h0, qq h]; rfl
theorem EndsOf_out {f : PFunc} {b : Int} (h : ¬ (0 ≤ b ∧ b < f.blocks.length)) : EndsOf f b = [] := by
 unfold EndsOf
 split
 ·rw [List.getElem?_eq_none (by omega)]; rfl
 ·rfl
theorem EndsOf_len (f : PFunc) (b : Int) : (EndsOf f b).length ≤ 2 := by
 unfold EndsOf
 split
 ·cases f.blocks[b.toNat]? with
  | none => simp
  | some c => exact endsL_len c.term
 ·simp
theorem EndsOf_nodup (f : PFunc) (b : Int) : (EndsOf f b).Nodup := by
 unfold EndsOf
 split
 ·cases f.blocks[b.toNat]? with
  | none => simp
  | some c => exact endsL_nodup c.term
 ·simp
structure EndsOk (f : PFunc) : Prop where
 pos : 0 < f.blocks.length
 rng : ∀ b ∈ f.blocks, ∀ c ∈ endsL b.term, 0 ≤ c ∧ c < f.blocks.length
theorem EndsOk.grph {f : PFunc} (h : EndsOk f) : Grph (EndsOf f) f.blocks.length :=
 {npos := h.pos
  rng := fun b h0 h1 c hc => by
   rw [EndsOf_get h0 (by omega)] at hc
   exact h.rng _ (qu (by omega)) c hc
  len := EndsOf_len f
  out := fun _ hx => EndsOf_out hx }
theorem predsT_nodup {E : Int → List Int} (hn : ∀ b, (E b).Nodup) (n : Nat) (b : Int) : (predsT E n b).Nodup ∧ (predsT E n b).Pairwise (· < ·) := by
 have key : (predsT E n b).Pairwise (· < ·) := by
  unfold predsT
  rw [List.flatMap, List.pairwise_flatten]
  constructor
  ·intro l hl
   obtain ⟨i, _, rfl⟩ := List.mem_map.1 hl
   have h1 := hn i
   have h2 : ((E i).filter fun c => decide (c = b)).length ≤ 1 := by
    generalize E i = l at h1
    induction l with
    | nil => simp
    | cons x l ih =>
     rw [List.nodup_cons] at h1
     rw [List.filter_cons]
     split
     ·rename_i hx
      have hx : x = b := by simpa using hx
      have : l.filter (fun c => decide (c = b)) = [] := List.filter_eq_nil_iff.2 fun y hy => by
       intro e
       have : y = b := by simpa using e
       rw [← hx] at this
       exact h1.1 (this ▸ hy)
      rw [this]; simp
     ·exact ih h1.2
   match h3 : ((E i).filter fun c => decide (c = b)) with
   | [] => simp
   | [x] => simp
   | x :: y :: r => rw [h3] at h2; simp at h2
  ·rw [List.pairwise_map]
   unfold intsTo
   rw [List.pairwise_map]
   refine List.Pairwise.imp ?_ List.pairwise_lt_range
   intro i j hij x hx y hy
   obtain ⟨_, _, rfl⟩ := List.mem_map.1 hx
   obtain ⟨_, _, rfl⟩ := List.mem_map.1 hy
   exact Int.ofNat_lt.2 hij
 exact ⟨key.imp fun h e => by omega, key⟩
def FromP (E : Int → List Int) (a shut b : Int) : Prop := a ≠ shut ∧ ∃ c, c ∈ E a ∧ Way E (fun x => x ≠ shut) c b
theorem FromP.step {E : Int → List Int} {a shut x y : Int} (h : (x = a ∧ a ≠ shut) ∨ FromP E a shut x) (he : y ∈ E x) (hy : y ≠ shut) : FromP E a shut y := by
 rcases h with ⟨rfl, h⟩ | ⟨h, c, hc, hw⟩
 ·exact ⟨h, y, he, .refl hy⟩
 ·exact ⟨h, c, hc, .step hw he hy⟩
theorem FromP.closed {E : Int → List Int} {a shut : Int} {out : Int → Prop} (hc : ∀ x y, x ≠ shut → (x = a ∨ out x) → y ∈ E x → y ≠ shut → out y) {b : Int} (h : FromP E a shut b) : out b := by
 obtain ⟨ha, c, hc1, hw⟩ := h
 induction hw with
 | refl h1 => exact hc a c ha (.inl rfl) hc1 h1
 | step h1 h2 h3 ih => exact hc _ _ h1.end_ (.inr ih) h2 h3
theorem reachedP {E : Int → List Int} {shut b : Int} : ((b = 0 ∧ shut ≠ 0) ∨ (b ≠ 0 ∧ FromP E 0 shut b)) ↔ Way E (fun x => x ≠ shut) 0 b := by
 constructor
 ·rintro (⟨rfl, h⟩ | ⟨_, h, c, hc, hw⟩)
  ·exact .refl (fun e => h e.symm)
  ·exact Way.trans (.step (.refl h) hc hw.start) hw
 ·intro h
  by_cases hb : b = 0
  ·exact .inl ⟨hb, fun e => h.start e.symm⟩
  ·refine .inr ⟨hb, h.start, ?_⟩
   rcases h.last with e | ⟨c, hc, hw⟩
   ·exact absurd e hb
   ·exact ⟨c, hc, hw.mono fun _ h => h.1⟩
theorem way_all {E : Int → List Int} {n : Nat} (hE : Grph E n) {b : Int} : Way E (fun x => x ≠ -1) 0 b ↔ Rch E b := by
 constructor
 ·exact fun h => h.mono fun _ _ => trivial
 ·intro h
  refine h.self.mono fun x hx e => ?_
  have := order_rng hE.toEOk ((order_mem hE.toEOk x).2 hx.2)
  omega
abbrev Plc := Int × Int
def mkBlk (v : Int) (i : Int) (b : PBlock) : List Plc := (b.phis.filter fun p => decide (p.dst = v)).map (fun _ => (i, -1)) ++ (b.insts.zipIdx.filter fun x => decide (x.1.dst = v)).map fun x => (i, (x.2 : Int))
def makings (f : PFunc) (v : Int) : List Plc := f.blocks.zipIdx.flatMap fun b => mkBlk v (b.2 : Int) b.1
def makerT (f : PFunc) (v : Int) : Plc := (makings f v).head?.getD (-1, 0)
def OnceP (f : PFunc) : Prop := ∀ v : Nat, v < f.vars.length → (makings f v).length ≤ 1 ∧ (makings f v ≠ [] → f.params.length ≤ v)
def AheadP (f : PFunc) (m : Plc) (b at_ : Int) : Prop := m.1 < 0 ∨ (m.1 = b ∧ m.2 < at_) ∨ (0 ≤ m.1 ∧ m.1 ≠ b ∧ Dom (EndsOf f) m.1 b)
def JoinP (f : PFunc) : Prop := ∀ i (h : i < f.blocks.length), ∀ p ∈ f.blocks[i].phis, p.from_.Perm (predsT (EndsOf f) f.blocks.length i)
def AllRP (f : PFunc) : Prop := ∀ i : Nat, i < f.blocks.length → Rch (EndsOf f) i
def lenAt (f : PFunc) (b : Int) : Int := ((f.blocks[b.toNat]?).map fun c => (c.insts.length : Int)).getD 0
def BehindP (f : PFunc) (i : Nat) (b : PBlock) : Prop :=
 (∀ p ∈ b.phis, ∀ q ∈ p.args.zip p.from_, AheadP f (makerT f q.1) q.2 (lenAt f q.2)) ∧
 (∀ k (h : k < b.insts.length), ∀ v ∈ b.insts[k].args, AheadP f (makerT f v) i k) ∧
 (b.term.kind = 0 ∨ AheadP f (makerT f b.term.var) i b.insts.length)
def BehP (f : PFunc) : Prop := ∀ i (h : i < f.blocks.length), BehindP f i f.blocks[i]
def SingP (f : PFunc) : Prop := JoinP f ∧ AllRP f ∧ OnceP f ∧ BehP f
end Go.Proofs.YtiojekbkamegdaaGreatDoor
namespace Go.Proofs.YtiojekbkamegdaaGreatDoor
def sortI (l : List Int) : List Int := l.mergeSort fun x y => decide (x ≤ y)
theorem sortI_perm (l : List Int) : (sortI l).Perm l := List.mergeSort_perm l _
theorem sortI_sorted (l : List Int) : (sortI l).Pairwise (· ≤ ·) := by
 have := List.pairwise_mergeSort (le := fun x y : Int => decide (x ≤ y)) (fun a b c h1 h2 => by simp at *; omega) (fun a b => by simp; omega) l
 exact this.imp fun h => by simpa using h
theorem sortI_eq {l m : List Int} (hm : m.Pairwise (· < ·)) : sortI l = m ↔ l.Perm m := by
 constructor
 ·intro h; rw [← h]; exact (sortI_perm l).symm
 ·intro h
  exact List.Perm.eq_of_pairwise (le := fun a b : Int => a ≤ b) (fun a b _ _ h1 h2 => Int.le_antisymm h1 h2) (sortI_sorted l) (hm.imp fun h => Int.le_of_lt h) ((sortI_perm l).trans h)
theorem perm_of_subset {l m : List Int} (hn : l.Nodup) (hs : ∀ x ∈ l, x ∈ m) (hl : m.length ≤ l.length) : l.Perm m := by
 induction l generalizing m with
 | nil => obtain rfl : m = [] := List.eq_nil_of_length_eq_zero (by simpa using hl); exact .refl _
 | cons x l ih =>
  rw [List.nodup_cons] at hn
  have hx := hs x (.head _)
  have h1 : l.Perm (m.erase x) := ih hn.2 (fun y hy => (List.mem_erase_of_ne (fun e => hn.1 (by rw [← e]; exact hy))).2 (hs y (.tail _ hy))) (by
   rw [List.length_erase_of_mem hx]; simp at hl; omega)
  exact (List.Perm.cons x h1).trans (List.perm_cons_erase hx).symm
def JoinR (f : PFunc) (i : Nat) (l : List Int) : Prop := (predsT (EndsOf f) f.blocks.length i).length = l.length ∧ ∀ k (h : k < l.length), (i : Int) ∈ EndsOf f l[k] ∧ l[k] ∉ l.take k
theorem nodup_take {l : List Int} : l.Nodup ↔ ∀ k (h : k < l.length), l[k] ∉ l.take k := by
 induction l with
 | nil => simp
 | cons x l ih =>
  rw [List.nodup_cons, ih]
  constructor
  ·rintro ⟨h1, h2⟩ k hk
   cases k with
   | zero => simp
   | succ k =>
    simp only [List.getElem_cons_succ, List.take_succ_cons, List.mem_cons, not_or]
    have hk' : k < l.length := by simpa using hk
    exact ⟨fun e => h1 (by rw [← e]; exact qu hk'), h2 k hk'⟩
  ·intro h
   constructor
   ·intro hm
    obtain ⟨k, hk, e⟩ := List.mem_iff_getElem.1 hm
    have := h (k + 1) (by simpa using hk)
    simp [e] at this
   ·intro k hk
    have := h (k + 1) (by simpa using hk)
    simp only [List.getElem_cons_succ, List.take_succ_cons, List.mem_cons, not_or] at this
    exact this.2
theorem joinR_iff {f : PFunc} (hE : EndsOk f) {i : Nat} {l : List Int} : JoinR f i l ↔ l.Perm (predsT (EndsOf f) f.blocks.length i) := by
 have hg := hE.grph
 have hp := predsT_nodup (EndsOf_nodup f) f.blocks.length i
 unfold JoinR
 constructor
 ·rintro ⟨h1, h2⟩
  refine perm_of_subset (nodup_take.2 fun k hk => (h2 k hk).2) (fun x hx => ?_) (by omega)
  obtain ⟨k, hk, rfl⟩ := List.mem_iff_getElem.1 hx
  exact (mem_predsT hg.toEOk hg.out).2 (h2 k hk).1
 ·intro h
  have hn := h.nodup_iff.2 hp.1
  exact ⟨h.length_eq.symm, fun k hk => ⟨(mem_predsT hg.toEOk hg.out).1 (h.mem_iff.1 (qu hk)), nodup_take.1 hn k hk⟩⟩
theorem joinS_iff {f : PFunc} {i : Nat} {l : List Int} : sortI l = predsT (EndsOf f) f.blocks.length i ↔ l.Perm (predsT (EndsOf f) f.blocks.length i) := sortI_eq (predsT_nodup (EndsOf_nodup f) f.blocks.length i).2
end Go.Proofs.YtiojekbkamegdaaGreatDoor
namespace Go.Proofs.YtiojekbkamegdaaGreatDoor
def setsT (l : List Bool) (bs : List Int) : List Bool := bs.foldl (fun l b => l.set b.toNat true) l
theorem setsT_len : ∀ (bs : List Int) (l : List Bool), (setsT l bs).length = l.length
 | [], _ => rfl
 | b :: bs, l => by show (setsT (l.set b.toNat true) bs).length = _; rw [setsT_len bs, List.length_set]
theorem setsT_snoc (l : List Bool) (bs : List Int) (b : Int) : setsT l (bs ++ [b]) = (setsT l bs).set b.toNat true := by unfold setsT; rw [List.foldl_append]; rfl
theorem setsT_get (k : Nat) : ∀ (bs : List Int) (l : List Bool), (∀ b ∈ bs, 0 ≤ b) → k < l.length → (setsT l bs)[k]? = some (decide ((k : Int) ∈ bs) || (l[k]?).getD false)
 | [], l, _, hk => by show l[k]? = _; rw [qq hk]; simp
 | b :: bs, l, h, hk => by
  show (setsT (l.set b.toNat true) bs)[k]? = _
  rw [setsT_get k bs _ (fun c hc => h c (.tail _ hc)) (by rw [List.length_set]; exact hk), List.getElem?_set]
  have h0 := h b (.head _)
  by_cases e : b.toNat = k
  ·have : (k : Int) = b := by omega
   rw [if_pos e, if_pos (by omega), this]; simp
  ·have : ¬ (k : Int) = b := by omega
   rw [if_neg e]; simp [this]
def reachB (E : Int → List Int) (n : Nat) : List Bool := setsT (List.replicate n false) (orderT E n)
theorem reachB_len (E : Int → List Int) (n : Nat) : (reachB E n).length = n := by unfold reachB; rw [setsT_len]; simp
theorem reachB_get {E : Int → List Int} {n : Nat} (hE : EOk E n) {k : Nat} (hk : k < n) : (reachB E n)[k]? = some (decide ((k : Int) ∈ orderT E n)) := by
 unfold reachB
 rw [setsT_get k _ _ (fun b hb => (order_rng hE hb).1) (by simp; exact hk)]
 simp [hk]
theorem reachB_iff {f : PFunc} (hE : EndsOk f) : (reachB (EndsOf f) f.blocks.length).contains false = false ↔ AllRP f := by
 have hG := hE.grph.toEOk
 constructor
 ·intro h i hi
  have hg := reachB_get hG hi
  apply (order_mem hG _).1
  apply Classical.byContradiction
  intro hn
  rw [w5 hn] at hg
  have := w1 hg
  rw [Bool.eq_false_iff] at h
  exact h (by simpa using this)
 ·intro h
  rw [Bool.eq_false_iff]
  intro hc
  have hc : false ∈ reachB (EndsOf f) f.blocks.length := by simpa using hc
  obtain ⟨k, hk, e⟩ := List.getElem_of_mem hc
  have hk2 := hk
  rw [reachB_len] at hk2
  have hg := reachB_get hG hk2
  rw [qq hk, e] at hg
  have hm := (order_mem hG (k : Int)).2 (h k hk2)
  rw [w4 hm] at hg
  cases hg
def phJ (f : PFunc) (i : Nat) (p : PPhi) : Bool := decide (sortI p.from_ = predsT (EndsOf f) f.blocks.length i)
def blkJ (f : PFunc) (i : Nat) : Bool := ((f.blocks[i]?).map fun b => b.phis.all (phJ f i)).getD true
def joinedB (f : PFunc) : Bool := (List.range f.blocks.length).all (blkJ f)
theorem blkJ_at {f : PFunc} {i : Nat} {b : PBlock} (h : f.blocks[i]? = some b) : blkJ f i = b.phis.all (phJ f i) := by unfold blkJ; rw [h]; rfl
theorem joinedB_iff (f : PFunc) : joinedB f = true ↔ JoinP f := by
 unfold joinedB JoinP
 rw [w7]
 constructor
 ·intro h i hi p hp
  have := h i (List.mem_range.2 hi)
  rw [blkJ_at (qq hi), w7] at this
  exact joinS_iff.1 (by simpa [phJ] using this p hp)
 ·intro h i hi
  have hi := List.mem_range.1 hi
  rw [blkJ_at (qq hi), w7]
  intro p hp
  simpa [phJ] using joinS_iff.2 (h i hi p hp)
theorem range_all_succ {p : Nat → Bool} {k : Nat} (h : (List.range k).all p = true) (hk : p k = true) : (List.range (k + 1)).all p = true := by rw [List.range_succ, List.all_append, h]; simp [hk]
theorem range_all_bad {p : Nat → Bool} {k n : Nat} (hk : k < n) (h : p k = false) : (List.range n).all p = false := by
 rw [Bool.eq_false_iff]; intro ha
 have := List.all_eq_true.1 ha k (List.mem_range.2 hk)
 rw [h] at this; cases this
def rowsOf {α : Type} (n : Nat) (ev : List (Int × α)) : List (List α) := (List.range n).map fun (v : Nat) => (ev.filter fun e => decide (e.1 = (v : Int))).map (·.2)
theorem rowsOf_len {α : Type} (n : Nat) (ev : List (Int × α)) : (rowsOf n ev).length = n := by unfold rowsOf; simp
theorem rowsOf_get {α : Type} {n : Nat} (ev : List (Int × α)) {v : Nat} (h : v < n) : (rowsOf n ev)[v]? = some ((ev.filter fun e => decide (e.1 = (v : Int))).map (·.2)) := by unfold rowsOf; rw [qy, List.getElem?_range h]; rfl
theorem rowsOf_nil {α : Type} (n : Nat) : List.replicate n [] = rowsOf (α := α) n [] := by
 apply List.ext_getElem
 ·rw [rowsOf_len]; simp
 ·intro i h1 h2; unfold rowsOf; simp
theorem rowsOf_row {α : Type} {n : Nat} {ev : List (Int × α)} {v : Nat} (h : v < (rowsOf n ev).length) : (rowsOf n ev)[v].length ≤ ev.length := by
 have h2 : v < n := by rwa [rowsOf_len] at h
 have := rowsOf_get ev h2
 rw [qq h] at this
 rw [Option.some.inj this, qx]
 exact List.length_filter_le _ _
theorem rowsOf_push {α : Type} {n : Nat} {ev : List (Int × α)} {c : Int} {x : α} (h0 : 0 ≤ c) (h : c.toNat < (rowsOf n ev).length) : (rowsOf n ev).set c.toNat ((rowsOf n ev)[c.toNat] ++ [x]) = rowsOf n (ev ++ [(c, x)]) := by
 have h2 : c.toNat < n := by rwa [rowsOf_len] at h
 apply List.ext_getElem?
 intro v
 rw [List.getElem?_set]
 by_cases hv : v < n
 ·rw [rowsOf_get _ hv]
  have hr := rowsOf_get ev h2
  rw [qq h] at hr
  rw [Option.some.inj hr]
  by_cases e : c.toNat = v
  ·have : c = (v : Int) := by omega
   rw [if_pos e, if_pos (by rw [rowsOf_len]; omega), rowsOf_get _ hv]
   have e2 : ((c.toNat : Nat) : Int) = c := by omega
   rw [e2, this, List.filter_append, w2]
   simp
  ·have : ¬ c = (v : Int) := by omega
   rw [if_neg e, rowsOf_get _ hv]
   simp [List.filter_append, this]
 ·have hn : (rowsOf n (ev ++ [(c, x)]))[v]? = none := List.getElem?_eq_none (by rw [rowsOf_len]; omega)
  rw [if_neg (by omega), hn, List.getElem?_eq_none (by rw [rowsOf_len]; omega)]
def evPh (i : Nat) (ps : List PPhi) : List (Int × Plc) := ps.map fun p => (p.dst, ((i : Int), -1))
def evIn (i : Nat) (xs : List PInst) : List (Int × Plc) := (xs.zipIdx.filter fun x => decide (0 ≤ x.1.dst)).map fun x => (x.1.dst, ((i : Int), (x.2 : Int)))
def evBl (i : Nat) (b : PBlock) : List (Int × Plc) := evPh i b.phis ++ evIn i b.insts
def evTo (f : PFunc) (k : Nat) : List (Int × Plc) := ((f.blocks.take k).zipIdx).flatMap fun b => evBl b.2 b.1
theorem zipTake {α : Type} {l : List α} {k : Nat} (h : k < l.length) : (l.take (k + 1)).zipIdx = (l.take k).zipIdx ++ [(l[k], k)] := by
 rw [qr h, List.zipIdx_append, w3, Nat.min_eq_left (by omega)]
 simp
theorem evPh_succ (i : Nat) {ps : List PPhi} {j : Nat} (h : j < ps.length) : evPh i (ps.take (j + 1)) = evPh i (ps.take j) ++ [(ps[j].dst, ((i : Int), -1))] := by
 unfold evPh; rw [qr h, w2]; rfl
theorem evIn_succ (i : Nat) {xs : List PInst} {j : Nat} (h : j < xs.length) : evIn i (xs.take (j + 1)) = evIn i (xs.take j) ++ if 0 ≤ xs[j].dst then [(xs[j].dst, ((i : Int), (j : Int)))] else [] := by
 unfold evIn; rw [zipTake h, List.filter_append, w2]
 by_cases h0 : 0 ≤ xs[j].dst
 ·simp [h0]
 ·simp [h0]
theorem evTo_succ {f : PFunc} {k : Nat} (h : k < f.blocks.length) : evTo f (k + 1) = evTo f k ++ evBl k f.blocks[k] := by
 unfold evTo; rw [zipTake h, List.flatMap_append]; simp
theorem evIn_len (i : Nat) (xs : List PInst) : (evIn i xs).length ≤ xs.length := by
 unfold evIn; rw [qx]; exact Nat.le_trans (List.length_filter_le _ _) (by simp)
theorem evBl_len (i : Nat) (b : PBlock) : (evBl i b).length ≤ b.phis.length + b.insts.length := by
 have := evIn_len i b.insts
 unfold evBl evPh; rw [qw, qx]; omega
theorem evTo_len {f : PFunc} {m : Nat} (h : ∀ b ∈ f.blocks, b.phis.length + b.insts.length ≤ m) : ∀ k, k ≤ f.blocks.length → (evTo f k).length ≤ k * m
 | 0, _ => by simp [evTo]
 | k + 1, hk => by
  have h1 := evTo_len h k (by omega)
  have h2 := evBl_len k f.blocks[k]
  have h3 := h _ (qu (show k < f.blocks.length by omega))
  rw [evTo_succ (by omega), qw, Nat.add_mul]; omega
theorem evBl_of (i v : Nat) (b : PBlock) : ((evBl i b).filter fun e => decide (e.1 = (v : Int))).map (·.2) = mkBlk v i b := by
 unfold evBl evPh evIn mkBlk
 rw [List.filter_append, w2, List.filter_map, List.map_map, List.filter_map, List.map_map, List.filter_filter]
 congr 1
 congr 1
 apply List.filter_congr
 intro x _
 by_cases e : x.1.dst = (v : Int)
 ·have : 0 ≤ x.1.dst := by omega
  simp [e]
 ·simp [e]
theorem evTo_of (f : PFunc) (v : Nat) : ((evTo f f.blocks.length).filter fun e => decide (e.1 = (v : Int))).map (·.2) = makings f v := by
 unfold evTo makings
 rw [qv, List.filter_flatMap, List.map_flatMap]
 congr 1
 funext b
 exact evBl_of b.2 v b.1
def makesR (f : PFunc) : List (List Plc) := rowsOf f.vars.length (evTo f f.blocks.length)
theorem makesR_get {f : PFunc} {v : Nat} (h : v < f.vars.length) : (makesR f)[v]? = some (makings f v) := by unfold makesR; rw [rowsOf_get _ h, evTo_of]
theorem makesR_len (f : PFunc) : (makesR f).length = f.vars.length := rowsOf_len _ _
def onceV (f : PFunc) (v : Nat) : Bool := !(decide (1 < (makings f v).length) || decide (0 < (makings f v).length) && decide (v < f.params.length))
def onceB (f : PFunc) : Bool := (List.range f.vars.length).all (onceV f)
theorem onceB_iff (f : PFunc) : onceB f = true ↔ OnceP f := by
 unfold onceB OnceP onceV
 rw [w7]
 constructor
 ·intro h v hv
  have := h v (List.mem_range.2 hv)
  simp only [Bool.not_eq_true', Bool.or_eq_false_iff, Bool.and_eq_false_iff, decide_eq_false_iff_not] at this
  refine ⟨by omega, fun hne=>?_⟩
  have hl := List.length_pos_iff.2 hne
  rcases this.2 with h1 | h1 <;> omega
 ·intro h v hv
  obtain ⟨h1, h2⟩ := h v (List.mem_range.1 hv)
  simp only [Bool.not_eq_true', Bool.or_eq_false_iff, Bool.and_eq_false_iff, decide_eq_false_iff_not]
  refine ⟨by omega, ?_⟩
  by_cases e : makings f v = []
  ·left; rw [e]; simp
  ·right; have := h2 e; omega
def makersT (f : PFunc) : List Plc := (List.range f.vars.length).map fun (v : Nat) => makerT f v
theorem makersT_get {f : PFunc} {v : Nat} (h : v < f.vars.length) : (makersT f)[v]? = some (makerT f v) := by unfold makersT; rw [qy, List.getElem?_range h]; rfl
theorem makersT_len (f : PFunc) : (makersT f).length = f.vars.length := by simp [makersT]
def aheadB (f : PFunc) (m : Plc) (b at_ : Int) : Bool := if m.1 < 0 then true else if m.1 = b then decide (m.2 < at_) else domB (EndsOf f) f.blocks.length m.1 b
theorem aheadB_iff {f : PFunc} (hE : EndsOk f) (m : Plc) (b at_ : Int) : aheadB f m b at_ = true ↔ AheadP f m b at_ := by
 unfold aheadB AheadP
 by_cases h0 : m.1 < 0
 ·rw [if_pos h0]; simp [h0]
 ·rw [if_neg h0]
  by_cases h1 : m.1 = b
  ·rw [if_pos h1]; simp [h1]; omega
  ·rw [if_neg h1, hE.grph.domB_iff]
   constructor
   ·intro h; exact .inr (.inr ⟨by omega, h1, h⟩)
   ·rintro (h | h | h)
    ·exact absurd h h0
    ·exact absurd h.1 h1
    ·exact h.2.2
def phA (f : PFunc) (p : PPhi) : Bool := (p.args.zip p.from_).all fun q => aheadB f (makerT f q.1) q.2 (lenAt f q.2)
def inA (f : PFunc) (i : Nat) (x : PInst × Nat) : Bool := x.1.args.all fun v => aheadB f (makerT f v) i x.2
def tmA (f : PFunc) (i : Nat) (b : PBlock) : Bool := decide (b.term.kind = 0) || aheadB f (makerT f b.term.var) i b.insts.length
def blkA (f : PFunc) (i : Nat) (b : PBlock) : Bool := b.phis.all (phA f) && b.insts.zipIdx.all (inA f i) && tmA f i b
def atA (f : PFunc) (i : Nat) : Bool := ((f.blocks[i]?).map (blkA f i)).getD true
def behB (f : PFunc) : Bool := (List.range f.blocks.length).all (atA f)
theorem atA_at {f : PFunc} {i : Nat} {b : PBlock} (h : f.blocks[i]? = some b) : atA f i = blkA f i b := by unfold atA; rw [h]; rfl
theorem blkA_iff {f : PFunc} (hE : EndsOk f) (i : Nat) (b : PBlock) : blkA f i b = true ↔ BehindP f i b := by
 unfold blkA BehindP
 rw [w6, w6, and_assoc]
 refine and_congr ?_ (and_congr ?_ ?_)
 ·rw [w7]
  refine forall_congr' fun p => forall_congr' fun _=>?_
  unfold phA
  rw [w7]
  exact forall_congr' fun q => forall_congr' fun _ => aheadB_iff hE _ _ _
 ·rw [w7]
  constructor
  ·intro h k hk v hv
   have := h (b.insts[k], k) (List.mem_zipIdx_iff_getElem?.2 (qq hk))
   unfold inA at this
   rw [w7] at this
   exact (aheadB_iff hE _ _ _).1 (this v hv)
  ·intro h x hx
   have hx := List.mem_zipIdx_iff_getElem?.1 hx
   obtain ⟨hk, e⟩ := List.getElem?_eq_some_iff.1 hx
   unfold inA
   rw [w7]
   intro v hv
   exact (aheadB_iff hE _ _ _).2 (h x.2 hk v (by rw [e]; exact hv))
 ·unfold tmA
  rw [Bool.or_eq_true, w9, aheadB_iff hE]
theorem behB_iff {f : PFunc} (hE : EndsOk f) : behB f = true ↔ BehP f := by
 unfold behB BehP
 rw [w7]
 constructor
 ·intro h i hi
  have := h i (List.mem_range.2 hi)
  rw [atA_at (qq hi)] at this
  exact (blkA_iff hE _ _).1 this
 ·intro h i hi
  have hi := List.mem_range.1 hi
  rw [atA_at (qq hi)]
  exact (blkA_iff hE _ _).2 (h i hi)
def singB (f : PFunc) : Bool := joinedB f && (!(reachB (EndsOf f) f.blocks.length).contains false && (onceB f && behB f))
theorem singB_iff {f : PFunc} (hE : EndsOk f) : singB f = true ↔ SingP f := by
 unfold singB SingP
 rw [w6, w6, w6, Bool.not_eq_true', joinedB_iff, reachB_iff hE, onceB_iff, behB_iff hE]
end Go.Proofs.YtiojekbkamegdaaGreatDoor
namespace Go.Proofs.YtiojekbkamegdaaGreatDoor
structure FrS (E : Int → List Int) (a shut : Int) (n : Nat) (out : List Bool) : Prop where
 len : out.length = n
 sound : ∀ b : Nat, out[b]? = some true → FromP E a shut b
def okX (a : Int) (out : List Bool) (shut x : Int) : Prop := x ≠ shut ∧ (x = a ∨ gb out x = true)
instance (a : Int) (out : List Bool) (shut x : Int) : Decidable (okX a out shut x) := by unfold okX; infer_instance
def clTo (E : Int → List Int) (a shut : Int) (out : List Bool) (k : Nat) : Prop := ∀ x : Nat, x < k → okX a out shut x → ∀ y : Nat, (y : Int) ∈ E x → (y : Int) ≠ shut → gb out y = true
def clAt (E : Int → List Int) (a shut : Int) (out : List Bool) (x j : Nat) : Prop := okX a out shut x → ∀ y : Nat, y < j → (y : Int) ∈ E x → (y : Int) ≠ shut → gb out y = true
def nFalse (out : List Bool) : Nat := (out.filter fun b => !b).length
theorem gb_nat (out : List Bool) (k : Nat) : gb out (k : Int) = (out[k]?).getD false := rfl
theorem gb_some {out : List Bool} {k : Nat} (h : k < out.length) : out[k]? = some (gb out k) := by
 rw [gb_nat, qq h]; rfl
theorem FrS.begin (E : Int → List Int) (a shut : Int) (n : Nat) : FrS E a shut n (List.replicate n false) := ⟨by simp, fun b h => by
 rw [List.getElem?_replicate] at h; split at h <;> simp at h⟩
theorem FrS.set {E : Int → List Int} {a shut : Int} {n : Nat} {out : List Bool} (h : FrS E a shut n out) {x y : Nat} (hx : okX a out shut x) (ha : a ≠ shut ∨ (x : Int) ≠ a) (he : (y : Int) ∈ E x) (hy : (y : Int) ≠ shut) : FrS E a shut n (out.set y true) := by
 refine ⟨by rw [List.length_set]; exact h.len, fun b hb => ?_⟩
 by_cases e : b = y
 ·subst e
  refine FromP.step (x := x) ?_ he hy
  rcases hx.2 with e | hg
  ·left
   refine ⟨e, ?_⟩
   rw [← e]; exact hx.1
  ·right
   by_cases hlt : x < out.length
   ·exact h.sound x (by rw [gb_some hlt, hg])
   ·rw [gb_nat, List.getElem?_eq_none (by omega)] at hg; simp at hg
 ·rw [List.getElem?_set_ne (fun e2 => e e2.symm)] at hb; exact h.sound b hb
theorem nFalse_set {out : List Bool} {y : Nat} (hy : y < out.length) (h : gb out y = false) : nFalse (out.set y true) + 1 = nFalse out := unseen_set out y (by rw [gb_some hy, h])
structure FrR (E : Int → List Int) (a shut : Int) (n : Nat) (o0 out : List Bool) (again : Bool) : Prop extends FrS E a shut n out where
 less : nFalse out ≤ nFalse o0
 more : again = true → nFalse out < nFalse o0
 same : again = false → out = o0
theorem FrR.hit {E : Int → List Int} {a shut : Int} {n : Nat} {o0 out : List Bool} {again : Bool} (h : FrR E a shut n o0 out again) {x y : Nat} (hx : okX a out shut x) (he : (y : Int) ∈ E x) (hy : (y : Int) ≠ shut) (hlt : y < n) (hf : gb out y = false) : FrR E a shut n o0 (out.set y true) true := by
 have h1 := nFalse_set (out := out) (y := y) (by rw [h.len]; exact hlt) hf
 have h2 := h.less
 exact { h.toFrS.set hx (by
      by_cases e : (x : Int) = a
      ·left; rw [← e]; exact hx.1
      ·exact .inr e) he hy with
     less := by omega
     more := fun _ => by omega
     same := fun e => by cases e }
theorem FrS.all {E : Int → List Int} {a shut : Int} {n : Nat} {out : List Bool} (hE : Grph E n) (ha : a = a ∧ 0 ≤ a ∧ a < n) (h : FrS E a shut n out) (hc : clTo E a shut out n) (b : Nat) (hb : b < n) : gb out b = true ↔ FromP E a shut b := by
 constructor
 ·intro hg; exact h.sound b (by rw [gb_some (by rw [h.len]; exact hb), hg])
 ·intro hf
  have := FromP.closed (out := fun x : Int => 0 ≤ x ∧ x < n ∧ gb out x = true) (fun x y h1 h2 h3 h4 => by
   have hxr : 0 ≤ x ∧ x < n := by
    rcases h2 with e | h2
    ·rw [e]; exact ha.2
    ·exact ⟨h2.1, h2.2.1⟩
   have hy := hE.rng x hxr.1 hxr.2 y h3
   have e1 : ((x.toNat : Nat) : Int) = x := w8 hxr.1
   have e2 : ((y.toNat : Nat) : Int) = y := w8 hy.1
   refine ⟨hy.1, hy.2, ?_⟩
   have := hc x.toNat (by omega) ⟨by rw [e1]; exact h1, by
    rw [e1]
    rcases h2 with e | h2
    ·exact .inl e
    ·exact .inr h2.2.2⟩ y.toNat (by rw [e1, e2]; exact h3) (by rw [e2]; exact h4)
   rwa [e2] at this) hf
  exact this.2.2
open Classical in
noncomputable def fromT (E : Int → List Int) (n : Nat) (a shut : Int) : List Bool := (intsTo n).map fun b => decide (FromP E a shut b)
open Classical in
theorem FrS.eq {E : Int → List Int} {a shut : Int} {n : Nat} {out : List Bool} (hE : Grph E n) (ha : 0 ≤ a ∧ a < n) (h : FrS E a shut n out) (hc : clTo E a shut out n) : out = fromT E n a shut := by
 refine List.ext_getElem (by rw [h.len]; unfold fromT; rw [qx, intsTo_len]) fun k h1 h2 => ?_
 have hk : k < n := by rw [h.len] at h1; exact h1
 have := h.all hE ⟨rfl, ha⟩ hc k hk
 have e1 : out[k] = gb out k := by have := gb_some h1; rw [qq h1] at this; simpa using this
 have e2 : (fromT E n a shut)[k] = decide (FromP E a shut k) := by
  have h3 : (fromT E n a shut)[k]? = some (decide (FromP E a shut k)) := by unfold fromT; rw [qy, intsTo_get hk]; rfl
  rw [qq h2] at h3
  simpa using h3
 rw [e1, e2]
 by_cases hf : FromP E a shut k
 ·rw [w4 hf]; exact this.2 hf
 ·rw [w5 hf]; exact Bool.eq_false_iff.2 fun e => hf (this.1 e)
open Classical in
noncomputable def reachT (E : Int → List Int) (n : Nat) (shut : Int) : List Bool := (intsTo n).map fun b => decide (Way E (fun x => x ≠ shut) 0 b)
open Classical in
theorem fromT_get {E : Int → List Int} {n k : Nat} {a shut : Int} (hk : k < n) : (fromT E n a shut)[k]? = some (decide (FromP E a shut k)) := by unfold fromT; rw [qy, intsTo_get hk]; rfl
open Classical in
theorem reachT_get {E : Int → List Int} {n k : Nat} {shut : Int} (hk : k < n) : (reachT E n shut)[k]? = some (decide (Way E (fun x => x ≠ shut) 0 k)) := by unfold reachT; rw [qy, intsTo_get hk]; rfl
theorem fromT_len (E : Int → List Int) (n : Nat) (a shut : Int) : (fromT E n a shut).length = n := by unfold fromT; rw [qx, intsTo_len]
theorem reachT_len (E : Int → List Int) (n : Nat) (shut : Int) : (reachT E n shut).length = n := by unfold reachT; rw [qx, intsTo_len]
open Classical in
theorem reachT_eq {E : Int → List Int} {n : Nat} (shut : Int) : (fromT E n 0 shut).set 0 (decide (shut ≠ 0)) = reachT E n shut := by
 refine List.ext_getElem? fun k=>?_
 by_cases hk : k < n
 ·rw [reachT_get hk]
  have hiff := reachedP (E := E) (shut := shut) (b := (k : Int))
  by_cases e : k = 0
  ·subst e
   rw [List.getElem?_set_self (by rw [fromT_len]; exact hk)]
   refine congrArg some (Bool.eq_iff_iff.2 ?_)
   rw [decide_eq_true_iff, decide_eq_true_iff, ← hiff]
   constructor
   ·intro h; exact .inl ⟨rfl, h⟩
   ·rintro (⟨_, h⟩ | ⟨h, _⟩)
    ·exact h
    ·exact absurd rfl h
  ·rw [List.getElem?_set_ne (fun e2 => e e2.symm), fromT_get hk]
   refine congrArg some (Bool.eq_iff_iff.2 ?_)
   rw [decide_eq_true_iff, decide_eq_true_iff, ← hiff]
   constructor
   ·intro h; exact .inr ⟨by omega, h⟩
   ·rintro (⟨h, _⟩ | ⟨_, h⟩)
    ·omega
    ·exact h
 ·rw [List.getElem?_eq_none (by rw [List.length_set, fromT_len]; omega), List.getElem?_eq_none (by rw [reachT_len]; omega)]
end Go.Proofs.YtiojekbkamegdaaGreatDoor
namespace Go.Proofs.YtiojekbkamegdaaGreatDoor
def cntE (v : Nat) (ev : List (Int × Plc)) : Nat := (ev.filter fun e => decide (e.1 = (v : Int))).length
theorem cntE_push (v : Nat) (ev : List (Int × Plc)) (d : Int) (x : Plc) : cntE v (ev ++ [(d, x)]) = cntE v ev + if d = (v : Int) then 1 else 0 := by
 unfold cntE; rw [List.filter_append, qw]
 by_cases h : d = (v : Int) <;> simp [h]
theorem makings_cnt (f : PFunc) (v : Nat) : (makings f v).length = cntE v (evTo f f.blocks.length) := by rw [← evTo_of, qx]; rfl
theorem cntE_le (v : Nat) (ev : List (Int × Plc)) : cntE v ev ≤ ev.length := List.length_filter_le _ _
theorem evTo_pre {f : PFunc} : ∀ {n k : Nat}, k ≤ n → n ≤ f.blocks.length → evTo f k <+: evTo f n
 | 0, k, h, _ => by rw [show k = 0 by omega]; exact List.prefix_refl _
 | n + 1, k, h, hn => by
  by_cases e : k = n + 1
  ·rw [e]; exact List.prefix_refl _
  ·rw [evTo_succ (by omega)]
   exact (evTo_pre (by omega) (by omega)).trans (List.prefix_append _ _)
theorem evPh_pre (i : Nat) (ps : List PPhi) (j : Nat) : evPh i (ps.take j) <+: evPh i ps := by
 unfold evPh
 obtain ⟨r, hr⟩ := List.take_prefix j ps
 exact ⟨r.map fun p => (p.dst, ((i : Int), -1)), by rw [← w2, hr]⟩
theorem evIn_pre (i : Nat) (xs : List PInst) : ∀ (m j : Nat), j ≤ m → m ≤ xs.length → evIn i (xs.take j) <+: evIn i (xs.take m)
 | 0, j, h, _ => by rw [show j = 0 by omega]; exact List.prefix_refl _
 | m + 1, j, h, hm => by
  by_cases e : j = m + 1
  ·rw [e]; exact List.prefix_refl _
  ·rw [evIn_succ i (by omega)]
   exact (evIn_pre i xs m j (by omega) (by omega)).trans (List.prefix_append _ _)
theorem pre_phi {f : PFunc} {k j : Nat} {b : PBlock} (hk : k < f.blocks.length) (hb : f.blocks[k] = b) (hj : j < b.phis.length) : (evTo f k ++ evPh k (b.phis.take j)) ++ [(b.phis[j].dst, ((k : Int), (-1 : Int)))] <+: evTo f f.blocks.length := by
 refine List.IsPrefix.trans ?_ (evTo_pre (show k + 1 ≤ f.blocks.length by omega) (Nat.le_refl _))
 rw [evTo_succ hk, hb, qs, ← evPh_succ k hj, evBl]
 exact (List.prefix_append_right_inj _).2 ((evPh_pre k b.phis (j + 1)).trans (List.prefix_append _ _))
theorem pre_inst {f : PFunc} {k j : Nat} {b : PBlock} (hk : k < f.blocks.length) (hb : f.blocks[k] = b) (hj : j < b.insts.length) (h0 : 0 ≤ b.insts[j].dst) : (evTo f k ++ evPh k b.phis ++ evIn k (b.insts.take j)) ++ [(b.insts[j].dst, ((k : Int), (j : Int)))] <+: evTo f f.blocks.length := by
 refine List.IsPrefix.trans ?_ (evTo_pre (show k + 1 ≤ f.blocks.length by omega) (Nat.le_refl _))
 have h := evIn_succ k hj
 rw [if_pos h0] at h
 rw [evTo_succ hk, hb, qs, ← h, evBl, qs]
 have h2 := evIn_pre k b.insts b.insts.length (j + 1) (by omega) (Nat.le_refl _)
 rw [qv] at h2
 exact (List.prefix_append_right_inj _).2 ((List.prefix_append_right_inj _).2 h2)
theorem maker_hit {f : PFunc} {v : Nat} {pre : List (Int × Plc)} {x : Plc} (hp : pre ++ [((v : Int), x)] <+: evTo f f.blocks.length) (h0 : cntE v pre = 0) : makerT f v = x := by
 obtain ⟨r, hr⟩ := hp
 have h1 : pre.filter (fun e => decide (e.1 = (v : Int))) = [] := List.eq_nil_of_length_eq_zero h0
 unfold makerT
 rw [← evTo_of, ← hr, List.filter_append, List.filter_append, h1]
 simp
theorem maker_none {f : PFunc} {v : Nat} (h0 : cntE v (evTo f f.blocks.length) = 0) : makerT f v = (-1, 0) := by
 unfold makerT
 rw [← evTo_of, List.eq_nil_of_length_eq_zero h0]
 rfl
noncomputable section
def aheadR (f : PFunc) (m : Plc) (b at_ : Int) : Bool := by
 classical exact if m.1 < 0 then true else if m.1 = b then decide (m.2 < at_) else !decide (Way (EndsOf f) (fun x => x ≠ m.1) 0 b)
def phR (f : PFunc) (p : PPhi) : Bool := (p.args.zip p.from_).all fun q => aheadR f (makerT f q.1) q.2 (lenAt f q.2)
def inR (f : PFunc) (i : Nat) (x : PInst × Nat) : Bool := x.1.args.all fun v => aheadR f (makerT f v) i x.2
def tmR (f : PFunc) (i : Nat) (b : PBlock) : Bool := decide (b.term.kind = 0) || aheadR f (makerT f b.term.var) i b.insts.length
def blkR (f : PFunc) (i : Nat) (b : PBlock) : Bool := by
 classical exact decide (Rch (EndsOf f) (i : Int)) && (b.phis.all (phR f) && (b.insts.zipIdx.all (inR f i) && tmR f i b))
def atR (f : PFunc) (i : Nat) : Bool := ((f.blocks[i]?).map (blkR f i)).getD true
def singR (f : PFunc) : Bool := joinedB f && (onceB f && (List.range f.blocks.length).all (atR f))
end
theorem atR_at {f : PFunc} {i : Nat} {b : PBlock} (h : f.blocks[i]? = some b) : atR f i = blkR f i b := by unfold atR; rw [h]; rfl
theorem aheadR_eq {f : PFunc} (hE : EndsOk f) (m : Plc) {b : Int} (at_ : Int) (hb : Rch (EndsOf f) b) : aheadR f m b at_ = aheadB f m b at_ := by
 rw [qz, aheadB_iff hE]
 unfold aheadR AheadP
 by_cases h0 : m.1 < 0
 ·rw [if_pos h0]; simp [h0]
 ·rw [if_neg h0]
  by_cases h1 : m.1 = b
  ·rw [if_pos h1]; simp [h1]; omega
  ·rw [if_neg h1]
   simp only [Bool.not_eq_true', decide_eq_false_iff_not]
   constructor
   ·intro h; exact .inr (.inr ⟨by omega, h1, hb, h⟩)
   ·rintro (h | h | h)
    ·exact absurd h h0
    ·exact absurd h.1 h1
    ·exact h.2.2.2
theorem singR_eq {f : PFunc} (hE : EndsOk f) (hfr : ∀ b ∈ f.blocks, ∀ p ∈ b.phis, ∀ c ∈ p.from_, 0 ≤ c ∧ c < f.blocks.length) : singR f = singB f := by
 unfold singR singB
 by_cases hA : AllRP f
 ·have hall : (reachB (EndsOf f) f.blocks.length).contains false = false := (reachB_iff hE).2 hA
  rw [hall]
  have hrch : ∀ c : Int, 0 ≤ c → c < f.blocks.length → Rch (EndsOf f) c := fun c h0 h1 => by
   have := hA c.toNat (by omega)
   rwa [show ((c.toNat : Nat) : Int) = c by omega] at this
  have : (List.range f.blocks.length).all (atR f) = behB f := by
   unfold behB
   rw [qz, w7, w7]
   refine forall_congr' fun i=>?_
   constructor
   all_goals
    intro h hi
    have hi2 := List.mem_range.1 hi
    have h := h hi
    have hget : f.blocks[i]? = some f.blocks[i] := qq hi2
    have hmem := qu hi2
    have e1 : f.blocks[i].phis.all (phR f) = f.blocks[i].phis.all (phA f) := by
     rw [qz, w7, w7]
     refine forall_congr' fun p => forall_congr' fun hp=>?_
     unfold phR phA
     rw [w7, w7]
     refine forall_congr' fun q => forall_congr' fun hq=>?_
     have hc := hfr _ hmem p hp q.2 (List.of_mem_zip hq).2
     rw [aheadR_eq hE _ _ (hrch q.2 hc.1 hc.2)]
    have e2 : f.blocks[i].insts.zipIdx.all (inR f i) = f.blocks[i].insts.zipIdx.all (inA f i) := by
     rw [qz, w7, w7]
     refine forall_congr' fun x => forall_congr' fun _=>?_
     unfold inR inA
     rw [w7, w7]
     refine forall_congr' fun v => forall_congr' fun _=>?_
     rw [aheadR_eq hE _ _ (hA i hi2)]
    have e3 : tmR f i f.blocks[i] = tmA f i f.blocks[i] := by unfold tmR tmA; rw [aheadR_eq hE _ _ (hA i hi2)]
    have e : blkR f i f.blocks[i] = blkA f i f.blocks[i] := by
     unfold blkR blkA; rw [e1, e2, e3]; simp [hA i hi2, Bool.and_assoc]
    first
     | (rw [atR_at hget, e] at h; rw [atA_at hget]; exact h)
     | (rw [atA_at hget, ← e] at h; rw [atR_at hget]; exact h)
  rw [this]
  simp
 ·have h1 : (reachB (EndsOf f) f.blocks.length).contains false = true := by
   cases h : (reachB (EndsOf f) f.blocks.length).contains false with
   | true => rfl
   | false => exact absurd ((reachB_iff hE).1 h) hA
  have h2 : (List.range f.blocks.length).all (atR f) = false := by
   rw [Bool.eq_false_iff]
   intro h
   apply hA
   intro i hi
   have := List.all_eq_true.1 h i (List.mem_range.2 hi)
   rw [atR_at (qq hi)] at this
   unfold blkR at this
   simp only [w6, w9] at this
   exact this.1
  rw [h1, h2]
  simp
end Go.Proofs.YtiojekbkamegdaaGreatDoor
namespace Go.Proofs.YtiojekbkamegdaaGreatDoor
abbrev Rng := Int × Int
def m64 : Int := -9223372036854775808
def M64 : Int := 9223372036854775807
def is64 (x : Int) : Prop := -9223372036854775808 ≤ x ∧ x ≤ 9223372036854775807
instance (x : Int) : Decidable (is64 x) := by unfold is64; infer_instance
def ok64 (r : Rng) : Prop := is64 r.1 ∧ is64 r.2
def noR : Rng := (1, 0)
def rMade (lo hi : Int) : Rng := if hi < lo then noR else (lo, hi)
def imin (a b : Int) : Int := if b < a then b else a
def imax (a b : Int) : Int := if a < b then b else a
def rJoin (a b : Rng) : Rng := if a.2 < a.1 then rMade b.1 b.2 else if b.2 < b.1 then a else (imin a.1 b.1, imax a.2 b.2)
def rMeet (a b : Rng) : Rng := rMade (imax a.1 b.1) (imin a.2 b.2)
def rType (t : Int) : Rng := if t = 0 then (m64, M64) else if t = 1 then (0, 1) else if t = 2 then (0, 64) else noR
def op3 (k : Nat) (x y : Int) : Int := if k = 0 then x + y else if k = 1 then x - y else x * y
def fit3 (k : Nat) (x y : Int) : Prop := is64 (op3 k x y)
instance (k : Nat) (x y : Int) : Decidable (fit3 k x y) := by unfold fit3; infer_instance
def near3 (k : Nat) (x y : Int) : Int := if (if k = 2 then decide (x < 0) != decide (y < 0) else decide (x < 0)) then m64 else M64
def one3 (k : Nat) (x y : Int) : Int := if fit3 k x y then op3 k x y else near3 k x y
def rOf (n : Int) : Rng := (n, n)
def cornF (k : Nat) (a b : Rng) : Prop := fit3 k a.1 b.1 ∧ fit3 k a.1 b.2 ∧ fit3 k a.2 b.1 ∧ fit3 k a.2 b.2
instance (k : Nat) (a b : Rng) : Decidable (cornF k a b) := by unfold cornF; infer_instance
def hullQ (a b : Int) : Rng := if b < a then (b, a) else (a, b)
def wideQ (a b : Rng) : Rng := (if b.1 < a.1 then b.1 else a.1, if a.2 < b.2 then b.2 else a.2)
def clipQ (k : Nat) (a b : Rng) : Rng := wideQ (hullQ (one3 k a.1 b.1) (one3 k a.1 b.2)) (hullQ (one3 k a.2 b.1) (one3 k a.2 b.2))
theorem mul_fit {x y : Nat} (hy : 0 < y) (l : Nat) : x ≤ l / y ↔ x * y ≤ l := Nat.le_div_iff_mul_le hy
theorem natAbs_mul_le (a b : Int) (l : Nat) : a.natAbs ≤ l / b.natAbs ↔ (b = 0 ∧ a = 0) ∨ (b ≠ 0 ∧ (a * b).natAbs ≤ l) := by
 by_cases hb : b = 0
 ·subst hb; simp
 ·rw [mul_fit (by omega), Int.natAbs_mul]; simp [hb]
theorem sign_mul {a b : Int} (ha : a ≠ 0) (hb : b ≠ 0) : (0 < a * b ↔ ((a < 0) ↔ (b < 0))) ∧ a * b ≠ 0 := by
 refine ⟨?_, Int.mul_ne_zero ha hb⟩
 rcases Int.lt_or_gt_of_ne ha with h1 | h1 <;> rcases Int.lt_or_gt_of_ne hb with h2 | h2
 ·have := Int.mul_pos_of_neg_of_neg h1 h2; simp [this, h1, h2]
 ·have := Int.mul_neg_of_neg_of_pos h1 h2
  constructor
  ·intro h; omega
  ·intro h; have := h.1 h1; omega
 ·have := Int.mul_neg_of_pos_of_neg h1 h2
  constructor
  ·intro h; omega
  ·intro h; have := h.2 h2; omega
 ·have := Int.mul_pos h1 h2
  constructor
  ·intro _; constructor <;> intro h <;> omega
  ·intro _; exact this
theorem fitMul (a b : Int) (ha : a ≠ 0) (hb : b ≠ 0) : (a.natAbs ≤ (if decide (a < 0) = decide (b < 0) then 9223372036854775807 else 9223372036854775808) / b.natAbs) ↔ fit3 2 a b := by
 have hs := sign_mul ha hb
 rw [natAbs_mul_le]
 unfold fit3 is64
 have e : op3 2 a b = a * b := rfl
 rw [e]
 simp only [hb, false_and, false_or, ne_eq, not_false_eq_true, true_and]
 by_cases h : decide (a < 0) = decide (b < 0)
 ·rw [if_pos h]
  have : (a < 0) ↔ (b < 0) := by simpa using h
  have h1 := hs.1.2 this
  omega
 ·rw [if_neg h]
  have : ¬ ((a < 0) ↔ (b < 0)) := by simpa using h
  have h1 : ¬ 0 < a * b := fun h2 => this (hs.1.1 h2)
  omega
end Go.Proofs.YtiojekbkamegdaaGreatDoor
namespace Go.Proofs.YtiojekbkamegdaaGreatDoor
def rSub (r s : Rng) : Prop := r.2 < r.1 ∨ (s.1 ≤ r.1 ∧ r.2 ≤ s.2)
theorem rSub.refl (r : Rng) : rSub r r := .inr ⟨Int.le_refl _, Int.le_refl _⟩
theorem rSub.trans {r s t : Rng} (h : rSub r s) (k : rSub s t) : rSub r t := by
 rcases h with h | h
 ·exact .inl h
 ·rcases k with k | k
  ·exact .inl (by omega)
  ·exact .inr (by omega)
end Go.Proofs.YtiojekbkamegdaaGreatDoor
namespace Go.Proofs.YtiojekbkamegdaaGreatDoor
def quoQ (a b : Rng) : Rng := wideQ (hullQ (a.1.tdiv b.1) (a.1.tdiv b.2)) (hullQ (a.2.tdiv b.1) (a.2.tdiv b.2))
def divQ (a b : Rng) : Rng :=
 if a.1 = m64 ∧ b.1 ≤ -1 ∧ -1 ≤ b.2 then (m64, M64) else
 if b.1 = 0 ∧ b.2 = 0 then noR else
 if 0 ≤ b.1 then quoQ a (if b.1 = 0 then 1 else b.1, b.2) else
 if b.2 ≤ 0 then quoQ a (b.1, if b.2 = 0 then -1 else b.2) else wideQ (quoQ a (b.1, -1)) (quoQ a (1, b.2))
end Go.Proofs.YtiojekbkamegdaaGreatDoor
namespace Go.Proofs.YtiojekbkamegdaaGreatDoor
def far (b : Rng) : Int := imax (if b.1 < 0 then -b.1 else b.1) (if b.2 < 0 then -b.2 else b.2) - 1
def remQ (a b : Rng) : Rng := if b.1 = 0 ∧ b.2 = 0 then noR else (if a.1 < 0 then imax (-(far b)) a.1 else 0, if 0 < a.2 then imin (far b) a.2 else 0)
def truQ (no yes : Bool) : Rng := (if no then 0 else 1, if yes then 1 else 0)
def eqQ (a b : Rng) : Rng := truQ (!(decide (a.1 = a.2) && decide (a = b))) (!decide ((rMeet a b).2 < (rMeet a b).1))
def ltQ (a b : Rng) : Rng := truQ (decide (b.1 ≤ a.2)) (decide (a.1 < b.2))
def leQ (a b : Rng) : Rng := truQ (decide (b.1 < a.2)) (decide (a.1 ≤ b.2))
def notQ (a : Rng) : Rng := truQ (decide (a.2 = 1)) (decide (a.1 = 0))
def andQ (a b : Rng) : Rng := truQ (decide (a.1 = 0) || decide (b.1 = 0)) (decide (a.2 = 1) && decide (b.2 = 1))
def cutQ (num : Int) (a b : Rng) : Rng :=
 if num = 0 then (if b.2 = m64 then noR else rMeet a (m64, b.2 - 1)) else
 if num = 1 then rMeet a (m64, b.2) else
 if num = 2 then rMeet a b else
 if num = 3 then rMeet a (b.1, M64) else
 if num = 4 then (if b.1 = M64 then noR else rMeet a (b.1 + 1, M64)) else a
end Go.Proofs.YtiojekbkamegdaaGreatDoor
namespace Go.Proofs.YtiojekbkamegdaaGreatDoor
def allR : Rng := (m64, M64)
def sumQ (k : Nat) (a b : Rng) (chk : Bool) : Rng := if chk = true ∨ cornF k a b then clipQ k a b else allR
def ra (rs : List Rng) (i : Nat) : Rng := (rs[i]?).getD (0, 0)
def instQ (op num : Int) (rs : List Rng) (chk : Bool) : Rng :=
 if op = 0 then rOf num else if op = 1 ∨ op = 12 then ra rs 0 else
 if op = 2 then sumQ 0 (ra rs 0) (ra rs 1) chk else if op = 3 then sumQ 1 (ra rs 0) (ra rs 1) chk else if op = 4 then sumQ 2 (ra rs 0) (ra rs 1) chk else
 if op = 5 then divQ (ra rs 0) (ra rs 1) else if op = 6 then remQ (ra rs 0) (ra rs 1) else
 if op = 7 then eqQ (ra rs 0) (ra rs 1) else if op = 8 then ltQ (ra rs 0) (ra rs 1) else if op = 9 then leQ (ra rs 0) (ra rs 1) else
 if op = 10 then notQ (ra rs 0) else if op = 11 then andQ (ra rs 0) (ra rs 1) else
 if op = 15 then rMeet (ra rs 0) (0, 64) else if op = 16 then rOf 0 else
 if op = 25 then cutQ num (ra rs 0) (ra rs 1) else if op = 26 then cutQ 0 (rMeet (ra rs 0) (0, M64)) (ra rs 1) else allR
structure Less (a a' : Rng) : Prop where
 ok : ok64 a
 ok' : ok64 a'
 ne : a.1 ≤ a.2
 sub : a'.1 ≤ a.1 ∧ a.2 ≤ a'.2
theorem Less.zero : Less (0, 0) (0, 0) := ⟨⟨by decide, by decide⟩, ⟨by decide, by decide⟩, by decide, by decide, by decide⟩
end Go.Proofs.YtiojekbkamegdaaGreatDoor
namespace Go.Proofs.YtiojekbkamegdaaGreatDoor
def lv (l : List Rng) (v : Int) : Rng := (l[v.toNat]?).getD noR
def widQ (t : Rng) (a b : Rng) : Rng :=
 let j := rJoin a b
 if a.2 < a.1 then j else (if j.1 < a.1 ∧ t.1 ≤ t.2 then imin j.1 t.1 else j.1, if a.2 < j.2 ∧ t.1 ≤ t.2 then imax j.2 t.2 else j.2)
structure Rules (n : Nat) (rule : List Rng → Int → Rng) (vs : List Int) : Prop where
 mono : ∀ l l' v, l.length = n → l'.length = n → (∀ u : Int, 0 ≤ u → rSub (lv l u) (lv l' u)) → (∀ u : Int, 0 ≤ u → ok64 (lv l u)) → (∀ u : Int, 0 ≤ u → ok64 (lv l' u)) → v ∈ vs → rSub (rule l v) (rule l' v)
 ok : ∀ l v, l.length = n → (∀ u : Int, 0 ≤ u → ok64 (lv l u)) → v ∈ vs → ok64 (rule l v)
 rng : ∀ v ∈ vs, 0 ≤ v ∧ v < n
def growR (rule : List Rng → Int → Rng) (wid : Int → Option Rng) (l : List Rng) (v : Int) : Rng :=
 match wid v with
 | some t => widQ t (lv l v) (rule l v)
 | none => rJoin (lv l v) (rule l v)
def growS (rule : List Rng → Int → Rng) (wid : Int → Option Rng) (l : List Rng) (v : Int) : List Rng := l.set v.toNat (growR rule wid l v)
def growA (rule : List Rng → Int → Rng) (wid : Int → Option Rng) (vs : List Int) (l : List Rng) : List Rng := vs.foldl (growS rule wid) l
end Go.Proofs.YtiojekbkamegdaaGreatDoor
namespace Go.Proofs.YtiojekbkamegdaaGreatDoor
section
variable {n : Nat} {rule : List Rng → Int → Rng} {widn : Nat → Int → Option Rng} {vs : List Int} (hR : Rules n rule vs) (hw : ∀ i v t, widn i v = some t → ok64 t)
include hR hw
end
end Go.Proofs.YtiojekbkamegdaaGreatDoor
namespace Go.Proofs.YtiojekbkamegdaaGreatDoor
def tyV (f : PFunc) (v : Int) : Int := ((f.vars[v.toNat]?).map (·.ty)).getD 0
def ofR (f : PFunc) (l : List Rng) (v : Int) : Rng := rMeet (lv l v) (rType (tyV f v))
def phiR (f : PFunc) (l : List Rng) (p : PPhi) : Rng := p.args.foldl (fun acc v => rJoin acc (ofR f l v)) noR
def argsR (f : PFunc) (l : List Rng) (x : PInst) : List Rng := x.args.map (ofR f l)
def rEmp (r : Rng) : Bool := decide (r.2 < r.1)
def instR (f : PFunc) (chk : Int → Bool) (l : List Rng) (x : PInst) : Rng := if (argsR f l x).any rEmp then noR else instQ x.op x.num (argsR f l x) (chk x.dst)
def ruleR (f : PFunc) (chk : Int → Bool) (l : List Rng) (v : Int) : Rng :=
 let m := makerT f v
 match f.blocks[m.1.toNat]? with
 | none => noR
 | some b => if 0 ≤ m.2 then (match b.insts[m.2.toNat]? with | none => noR | some x => instR f chk l x) else (match b.phis.find? fun p => decide (p.dst = v) with | none => noR | some p => phiR f l p)
end Go.Proofs.YtiojekbkamegdaaGreatDoor
namespace Go.Proofs.YtiojekbkamegdaaGreatDoor
def chkQ (f : PFunc) (op : Int) (args : List Int) (i : Nat) (block at_ : Int) (q : PInst × Nat) : Bool := decide (q.1.op = op) && decide (q.1.args = args) && aheadB f ((i : Int), (q.2 : Int)) block at_
def chkI (f : PFunc) (op : Int) (args : List Int) (block at_ : Int) (i : Nat) : Bool := ((f.blocks[i]?).map fun b => b.insts.zipIdx.any (chkQ f op args i block at_)).getD false
def chkW (f : PFunc) (op : Int) (args : List Int) (block at_ : Int) : Bool := (List.range f.blocks.length).any (chkI f op args block at_)
def isSum (op : Int) : Bool := decide (op = 2 ∨ op = 3 ∨ op = 4)
def chkX (f : PFunc) (x : PInst) (block at_ : Int) : Bool := isSum x.op && chkW f (x.op + 19) x.args block at_
def instAt (f : PFunc) (m : Plc) : Option PInst := if 0 ≤ m.1 ∧ 0 ≤ m.2 then (f.blocks[m.1.toNat]?).bind fun b => b.insts[m.2.toNat]? else none
def chkV (f : PFunc) (v : Int) : Bool := ((instAt f (makerT f v)).map fun x => chkX f x (makerT f v).1 (makerT f v).2).getD false
theorem mem_mkBlk {v i : Int} {b : PBlock} {m : Plc} : m ∈ mkBlk v i b ↔ (∃ p ∈ b.phis, p.dst = v ∧ m = (i, -1)) ∨ ∃ (k : Nat) (x : PInst), b.insts[k]? = some x ∧ x.dst = v ∧ m = (i, (k : Int)) := by
 unfold mkBlk
 rw [List.mem_append]
 constructor
 ·rintro (h | h)
  ·obtain ⟨p, hp, e⟩ := List.mem_map.1 h
   obtain ⟨h1, h2⟩ := List.mem_filter.1 hp
   exact .inl ⟨p, h1, by simpa using h2, e.symm⟩
  ·obtain ⟨q, hq, e⟩ := List.mem_map.1 h
   obtain ⟨h1, h2⟩ := List.mem_filter.1 hq
   obtain ⟨x, k⟩ := q
   have := List.mem_zipIdx_iff_getElem?.1 h1
   exact .inr ⟨k, x, this, by simpa using h2, e.symm⟩
 ·rintro (⟨p, h1, h2, rfl⟩ | ⟨k, x, h1, h2, rfl⟩)
  ·exact .inl (List.mem_map.2 ⟨p, List.mem_filter.2 ⟨h1, by simpa using h2⟩, rfl⟩)
  ·exact .inr (List.mem_map.2 ⟨(x, k), List.mem_filter.2 ⟨List.mem_zipIdx_iff_getElem?.2 h1, by simpa using h2⟩, rfl⟩)
theorem mem_makings {f : PFunc} {v : Int} {m : Plc} : m ∈ makings f v ↔ ∃ (i : Nat) (b : PBlock), f.blocks[i]? = some b ∧ m ∈ mkBlk v i b := by
 unfold makings
 rw [List.mem_flatMap]
 constructor
 ·rintro ⟨⟨b, i⟩, h1, h2⟩; exact ⟨i, b, List.mem_zipIdx_iff_getElem?.1 h1, h2⟩
 ·rintro ⟨i, b, h1, h2⟩; exact ⟨(b, i), List.mem_zipIdx_iff_getElem?.2 h1, h2⟩
theorem maker_mem {f : PFunc} {v : Int} (h : 0 ≤ (makerT f v).1) : makerT f v ∈ makings f v := by
 unfold makerT at h ⊢
 cases hm : makings f v with
 | nil => rw [hm] at h; simp at h
 | cons x l => simp
theorem maker_eq {f : PFunc} {v : Int} {m : Plc} (hl : (makings f v).length ≤ 1) (h : m ∈ makings f v) : makerT f v = m := by
 unfold makerT
 cases hm : makings f v with
 | nil => rw [hm] at h; cases h
 | cons x l =>
  rw [hm] at h hl
  cases l with
  | nil => simp at h; simp [h]
  | cons y l => simp at hl
theorem maker_cases {f : PFunc} {v : Int} (h : 0 ≤ (makerT f v).1) : ∃ (i : Nat) (b : PBlock), f.blocks[i]? = some b ∧ ((∃ p ∈ b.phis, p.dst = v ∧ makerT f v = ((i : Int), -1)) ∨ ∃ (k : Nat) (x : PInst), b.insts[k]? = some x ∧ x.dst = v ∧ makerT f v = ((i : Int), (k : Int))) := by
 obtain ⟨i, b, h1, h2⟩ := mem_makings.1 (maker_mem h)
 exact ⟨i, b, h1, mem_mkBlk.1 h2⟩
theorem chkV_at {f : PFunc} {v : Int} {i k : Nat} {b : PBlock} {x : PInst} (hb : f.blocks[i]? = some b) (hx : b.insts[k]? = some x) (hm : makerT f v = ((i : Int), (k : Int))) : chkV f v = chkX f x i k := by
 unfold chkV instAt
 rw [hm, if_pos ⟨by dsimp only; omega, by dsimp only; omega⟩]
 show (((f.blocks[i]?).bind fun b => b.insts[k]?).map fun x => chkX f x i k).getD false = _
 rw [hb]; show ((b.insts[k]?).map _).getD false = _
 rw [hx]; rfl
end Go.Proofs.YtiojekbkamegdaaGreatDoor
namespace Go.Proofs.YtiojekbkamegdaaGreatDoor
def firstR (f : PFunc) (v : Int) : Rng := if v < f.params.length then rType (tyV f v) else (0, 0)
def first0R (f : PFunc) (v : Int) : Rng := if (makerT f v).1 < 0 then firstR f v else noR
def firstL (f : PFunc) : List Rng := (List.range f.vars.length).map fun (v : Nat) => first0R f v
def madePh (b : PBlock) : List (Int × Bool) := b.phis.map fun p => (p.dst, true)
def madeIn (xs : List PInst) : List (Int × Bool) := (xs.filter fun x => decide (0 ≤ x.dst)).map fun x => (x.dst, false)
def madeL (f : PFunc) : List (Int × Bool) := f.blocks.flatMap fun b => madePh b ++ madeIn b.insts
end Go.Proofs.YtiojekbkamegdaaGreatDoor
namespace Go.Proofs.YtiojekbkamegdaaGreatDoor
def isChk (q : Int) : Prop := 21 ≤ q ∧ q ≤ 23
instance (q : Int) : Decidable (isChk q) := by unfold isChk; infer_instance
def Done (f : PFunc) (i k : Nat) (v : Int) : Prop := ∃ (i' k' : Nat) (b : PBlock) (z : PInst), f.blocks[i']? = some b ∧ b.insts[k']? = some z ∧ z.dst = v ∧ chkX f z i' k' = true ∧ (i' < i ∨ i' = i ∧ k' < k)
theorem Done.step {f : PFunc} {i k : Nat} {b : PBlock} {z : PInst} (h1 : f.blocks[i]? = some b) (h2 : b.insts[k]? = some z) (v : Int) : Done f i (k + 1) v ↔ Done f i k v ∨ (v = z.dst ∧ chkX f z i k = true) := by
 constructor
 ·rintro ⟨i', k', b', z', g1, g2, g3, g4, g5⟩
  by_cases e : i' = i ∧ k' = k
  ·obtain ⟨rfl, rfl⟩ := e
   rw [h1] at g1; cases g1
   rw [h2] at g2; cases g2
   exact .inr ⟨g3.symm, g4⟩
  ·exact .inl ⟨i', k', b', z', g1, g2, g3, g4, by omega⟩
 ·rintro (⟨i', k', b', z', g1, g2, g3, g4, g5⟩ | ⟨rfl, h⟩)
  ·exact ⟨i', k', b', z', g1, g2, g3, g4, by omega⟩
  ·exact ⟨i, k, b, z, h1, h2, rfl, h, .inr ⟨rfl, by omega⟩⟩
theorem Done.next {f : PFunc} {i : Nat} {b : PBlock} (h1 : f.blocks[i]? = some b) (v : Int) : Done f (i + 1) 0 v ↔ Done f i b.insts.length v := by
 constructor
 ·rintro ⟨i', k', b', z', g1, g2, g3, g4, g5⟩
  refine ⟨i', k', b', z', g1, g2, g3, g4, ?_⟩
  by_cases e : i' = i
  ·subst e
   rw [h1] at g1; cases g1
   exact .inr ⟨rfl, (List.getElem?_eq_some_iff.1 g2).1⟩
  ·exact .inl (by omega)
 ·rintro ⟨i', k', b', z', g1, g2, g3, g4, g5⟩
  exact ⟨i', k', b', z', g1, g2, g3, g4, .inl (by omega)⟩
theorem Done.zero (f : PFunc) (v : Int) : ¬ Done f 0 0 v := by
 rintro ⟨i', k', b', z', g1, g2, g3, g4, g5⟩; omega
theorem Done.all {f : PFunc} (ho : OnceP f) {v : Nat} (hv : v < f.vars.length) : Done f f.blocks.length 0 v ↔ chkV f v = true := by
 constructor
 ·rintro ⟨i', k', b', z', g1, g2, g3, g4, g5⟩
  have hm : ((i' : Int), (k' : Int)) ∈ makings f v := mem_makings.2 ⟨i', b', g1, mem_mkBlk.2 (.inr ⟨k', z', g2, g3, rfl⟩)⟩
  have := maker_eq (ho v hv).1 hm
  rw [chkV_at g1 g2 this]; exact g4
 ·intro h
  by_cases h0 : 0 ≤ (makerT f v).1
  ·obtain ⟨i, b, h1, ⟨p, h2, h3, h4⟩ | ⟨k, x, h2, h3, h4⟩⟩ := maker_cases h0
   ·unfold chkV instAt at h
    rw [h4, if_neg (by dsimp only; omega)] at h
    cases h
   ·rw [chkV_at h1 h2 h4] at h
    exact ⟨i, k, b, x, h1, h2, h3, h, .inl (List.getElem?_eq_some_iff.1 h1).1⟩
  ·unfold chkV instAt at h
   rw [if_neg (fun hh => h0 hh.1)] at h
   cases h
end Go.Proofs.YtiojekbkamegdaaGreatDoor
namespace Go.Proofs.YtiojekbkamegdaaGreatDoor
def rF (f : PFunc) : List Rng → Int → Rng := ruleR f (chkV f)
def madeV (f : PFunc) : List Int := (madeL f).map (·.1)
def widF (f : PFunc) (n : Nat) (v : Int) : Option Rng := if 4 ≤ n ∧ (makerT f v).2 = -1 then some (rType (tyV f v)) else none
def rndF (f : PFunc) : Nat → List Rng
 | 0 => firstL f
 | i + 1 => growA (rF f) (widF f (i + 1)) (madeV f) (rndF f i)
structure Stops (f : PFunc) (K : Nat) : Prop where
 still : rndF f (K + 1) = rndF f K
 moves : ∀ i, i < K → rndF f (i + 1) ≠ rndF f i
theorem Stops.eq {f : PFunc} {K K' : Nat} (h : Stops f K) (h' : Stops f K') : K = K' := by
 rcases Nat.lt_trichotomy K K' with c | c | c
 ·exact absurd h.still (h'.moves K c)
 ·exact c
 ·exact absurd h'.still (h.moves K' c)
end Go.Proofs.YtiojekbkamegdaaGreatDoor
namespace Go.Proofs.YtiojekbkamegdaaGreatDoor
section
variable {n : Nat} {rule : List Rng → Int → Rng} {vs : List Int} {phi : Int → Prop} {rank : Int → Nat}
def SameR (vs : List Int) (phi : Int → Prop) (rank : Int → Nat) (m : Nat) (l l' : List Rng) : Prop := ∀ u : Int, 0 ≤ u → (u ∉ vs ∨ phi u ∨ rank u < m) → lv l u = lv l' u
theorem SameR.le {m k : Nat} {l l' : List Rng} (h : SameR vs phi rank m l l') (hk : k ≤ m) : SameR vs phi rank k l l' := fun u hu hc => h u hu (by
 rcases hc with hc | hc | hc
 ·exact .inl hc
 ·exact .inr (.inl hc)
 ·exact .inr (.inr (by omega)))
end
section
variable {n : Nat} {rule : List Rng → Int → Rng} {vs : List Int} {phi : Int → Prop} {t : Int → Rng}
end
end Go.Proofs.YtiojekbkamegdaaGreatDoor
namespace Go.Proofs.YtiojekbkamegdaaGreatDoor
def hAdd (h : Rng × Bool) (n : Int) (fits : Bool) (e : Int) : Rng × Bool := (rJoin h.1 (rOf (if fits then n else e)), h.2 || !fits)
def h4 (h : Rng × Bool) (a b : Rng) (n : Int → Int → Int) (fit : Int → Int → Bool) (e : Int → Int → Int) : Rng × Bool :=
 hAdd (hAdd (hAdd (hAdd h (n a.1 b.1) (fit a.1 b.1) (e a.1 b.1)) (n a.1 b.2) (fit a.1 b.2) (e a.1 b.2)) (n a.2 b.1) (fit a.2 b.1) (e a.2 b.1)) (n a.2 b.2) (fit a.2 b.2) (e a.2 b.2)
instance (k : Nat) (x y : Int) : Decidable (fit3 k x y) := by unfold fit3 is64; infer_instance
instance (k : Nat) (a b : Rng) : Decidable (cornF k a b) := by unfold cornF; infer_instance
end Go.Proofs.YtiojekbkamegdaaGreatDoor
namespace Go.Proofs.YtiojekbkamegdaaGreatDoor
open Go.Proofs
theorem abs_wrap {x : Int} (h : is64 x) : (if x < 0 then IntKind.u64.wrap (0 - IntKind.u64.wrap x) else IntKind.u64.wrap x) = ((x.natAbs : Nat) : Int) := by
 unfold is64 at h
 unfold IntKind.wrap; simp [IntKind.bits, IntKind.signed]; split <;> omega
def encZ (r : Rng) : List AV := [.int .i64 r.1, .int .i64 r.2]
end Go.Proofs.YtiojekbkamegdaaGreatDoor
namespace Go.Proofs.YtiojekbkamegdaaGreatDoor
open Go.Proofs
theorem wrap_s (z : Int) : IntKind.i64.wrap z = (z + 9223372036854775808) % 18446744073709551616 - 9223372036854775808 := by
 unfold IntKind.wrap; simp [IntKind.bits, IntKind.signed]; (try split) <;> omega
theorem wrap_u (z : Int) : IntKind.u64.wrap z = z % 18446744073709551616 := by
 unfold IntKind.wrap; simp [IntKind.bits, IntKind.signed]
theorem wrapU_add (x y : Int) : IntKind.i64.wrap (IntKind.u64.wrap (IntKind.u64.wrap x + IntKind.u64.wrap y)) = IntKind.i64.wrap (x + y) := by
 simp only [wrap_s, wrap_u]; omega
theorem wrapU_sub (x y : Int) : IntKind.i64.wrap (IntKind.u64.wrap (IntKind.u64.wrap x - IntKind.u64.wrap y)) = IntKind.i64.wrap (x - y) := by
 simp only [wrap_s, wrap_u]; omega
theorem wrapU_mul (x y : Int) : IntKind.i64.wrap (IntKind.u64.wrap (IntKind.u64.wrap x * IntKind.u64.wrap y)) = IntKind.i64.wrap (x * y) := by
 simp only [wrap_s, wrap_u]
 rw [← Int.mul_emod]; omega
theorem wrapU_neg (x : Int) : IntKind.i64.wrap (IntKind.u64.wrap (0 - IntKind.u64.wrap x)) = IntKind.i64.wrap (x.tdiv (-1)) := by
 rw [show x.tdiv (-1) = -x by rw [Int.tdiv_neg, Int.tdiv_one]]
 simp only [wrap_s, wrap_u]; omega
theorem fitU {x y : Int} (hx : is64 x) (hx0 : x ≠ 0) (hy0 : y ≠ 0) : decide ((x.natAbs : Int) ≤ IntKind.u64.wrap ((if (decide (x < 0) == decide (y < 0)) = true then 9223372036854775807 else 9223372036854775808 : Int).tdiv (y.natAbs : Int))) = decide (fit3 2 x y) := by
 rw [decide_eq_decide, ← fitMul x y hx0 hy0]
 obtain ⟨l, hl⟩ : ∃ l : Nat, (if decide (x < 0) = decide (y < 0) then 9223372036854775807 else 9223372036854775808) = l := ⟨_, rfl⟩
 have hl2 : (if (decide (x < 0) == decide (y < 0)) = true then 9223372036854775807 else 9223372036854775808 : Int) = (l : Int) := by
  rw [← hl]
  by_cases h : decide (x < 0) = decide (y < 0)
  ·rw [if_pos h, if_pos (by simpa using h)]; rfl
  ·rw [if_neg h, if_neg (by simpa using h)]; rfl
 have hll : l ≤ 9223372036854775808 := by rw [← hl]; split <;> omega
 rw [hl, hl2, show ((l : Int)).tdiv (y.natAbs : Int) = ((l / y.natAbs : Nat) : Int) from rfl, wrap_u]
 have h3 := Nat.div_le_self l y.natAbs
 generalize l / y.natAbs = q at h3 ⊢
 omega
end Go.Proofs.YtiojekbkamegdaaGreatDoor
namespace Go.Proofs.YtiojekbkamegdaaGreatDoor
structure GS where
 ints : List Int
 bools : List Bool
 arrs : List Int
 arrays : List (List Int)
 blk : Int
 pc : Nat
 en : Int
 val : Int
 tr : Int
 trace : List Int
 st : Nat
 ck : Nat → Nat
 ended : Bool
structure PArg where
 int : Int
 b : Bool
 arr : Int
structure PIn where
 args : List PArg
 arrays : List (List Int)
def vi (l : List Int) (v : Int) : Int := (l[v.toNat]?).getD 0
def ar0 (x : PInst) : Int := (x.args[0]?).getD 0
def ar1 (x : PInst) : Int := (x.args[1]?).getD 0
def ar2 (x : PInst) : Int := (x.args[2]?).getD 0
def rowG (s : GS) (a : Int) : List Int := (s.arrays[a.toNat]?).getD []
def placeG (s : GS) (a i : Int) : Bool := decide (0 ≤ a ∧ a < s.arrays.length ∧ 0 ≤ i ∧ i < (rowG s a).length)
def bIf (l : List Int) (ints : List Int) : Int := if 1 < l.length then vi ints ((l[1]?).getD 0) else 0
def passG (s : GS) (op : Int) (l : List Int) : Bool :=
 if op = 18 then placeG s (vi s.arrs ((l[0]?).getD 0)) (bIf l s.ints)
 else if op = 19 then decide (0 ≤ vi s.arrs ((l[0]?).getD 0))
 else if op = 20 then decide (vi s.ints ((l[0]?).getD 0) ≠ 0)
 else if op = 21 then decide (fit3 0 (vi s.ints ((l[0]?).getD 0)) (bIf l s.ints))
 else if op = 22 then decide (fit3 1 (vi s.ints ((l[0]?).getD 0)) (bIf l s.ints))
 else if op = 23 then decide (fit3 2 (vi s.ints ((l[0]?).getD 0)) (bIf l s.ints))
 else decide (0 ≤ vi s.ints ((l[0]?).getD 0) ∧ vi s.ints ((l[0]?).getD 0) ≤ 64)
def bumpG (s : GS) (t : Nat) : GS := { s with ck := fun i => if i = t then s.ck i + 1 else s.ck i }
def stopG (s : GS) (e : Int) : GS := { s with en := e, ended := true }
def trapG (s : GS) (t : Int) : GS := { s with en := 1, tr := t, ended := true }
def stI (s : GS) (d v : Int) : GS := { s with ints := s.ints.set d.toNat v }
def stB (s : GS) (d : Int) (v : Bool) : GS := { s with bools := s.bools.set d.toNat v }
def stA (s : GS) (d v : Int) : GS := { s with arrs := s.arrs.set d.toNat v }
def quoG (a b : Int) : Int := IntKind.i64.wrap (a.tdiv b)
def remG (a b : Int) : Int := if b = -1 then 0 else IntKind.i64.wrap (a - IntKind.i64.wrap (IntKind.i64.wrap (a.tdiv b) * b))
def aG (s : GS) (x : PInst) : Int := vi s.ints (ar0 x)
def bG (s : GS) (x : PInst) : Int := vi s.ints (ar1 x)
def pG (s : GS) (x : PInst) : Bool := gb s.bools (ar0 x)
def qG (s : GS) (x : PInst) : Bool := gb s.bools (ar1 x)
def rG (s : GS) (x : PInst) : Int := vi s.arrs (ar0 x)
def doG (s : GS) (x : PInst) : GS :=
 if x.op = 0 then stI s x.dst x.num
 else if x.op = 1 ∨ x.op = 25 ∨ x.op = 26 then stA (stB (stI s x.dst (aG s x)) x.dst (pG s x)) x.dst (rG s x)
 else if x.op = 2 then stI s x.dst (IntKind.i64.wrap (op3 0 (aG s x) (bG s x)))
 else if x.op = 3 then stI s x.dst (IntKind.i64.wrap (op3 1 (aG s x) (bG s x)))
 else if x.op = 4 then stI s x.dst (IntKind.i64.wrap (op3 2 (aG s x) (bG s x)))
 else if x.op = 5 then (if bG s x = 0 then stopG s 2 else stI s x.dst (quoG (aG s x) (bG s x)))
 else if x.op = 6 then (if bG s x = 0 then stopG s 2 else stI s x.dst (remG (aG s x) (bG s x)))
 else if x.op = 7 then stB s x.dst (decide (aG s x = bG s x))
 else if x.op = 8 then stB s x.dst (decide (aG s x < bG s x))
 else if x.op = 9 then stB s x.dst (decide (aG s x ≤ bG s x))
 else if x.op = 10 then stB s x.dst (!pG s x)
 else if x.op = 11 then stB s x.dst (pG s x && qG s x)
 else if x.op = 12 then (if rG s x < 0 then stopG s 2 else stI s x.dst ((rowG s (rG s x)).length))
 else if x.op = 13 then (if placeG s (rG s x) (bG s x) = true then stI s x.dst (vi (rowG s (rG s x)) (bG s x)) else stopG s 2)
 else if x.op = 14 then (if placeG s (rG s x) (bG s x) = true then { s with arrays := s.arrays.set (rG s x).toNat ((rowG s (rG s x)).set (bG s x).toNat (vi s.ints (ar2 x))) } else stopG s 2)
 else if x.op = 15 then (if aG s x < 0 ∨ 64 < aG s x then stopG s 2 else if 32 ≤ s.arrays.length then stopG s 3 else stA { s with arrays := s.arrays ++ [List.replicate (aG s x).toNat 0] } x.dst s.arrays.length)
 else if x.op = 16 then stA s x.dst (-1)
 else (if 4096 ≤ s.trace.length then stopG s 3 else { s with trace := s.trace ++ [aG s x] })
def instG (s : GS) (x : PInst) : GS :=
 if 18 ≤ x.op ∧ x.op ≤ 24 then (if passG s x.op x.args = true then bumpG s (x.op - 17).toNat else trapG (bumpG s (x.op - 17).toNat) (x.op - 17))
 else doG s x
def blkG (f : PFunc) (b : Int) : PBlock := (f.blocks[b.toNat]?).getD ⟨⟨#[]⟩, [], [], ⟨2, 0, 0, 0⟩⟩
def phiAt (p : PPhi) (b : Int) : Int := ((p.from_.zip p.args).find? fun q => decide (q.1 = b)).elim (-1) (·.2)
def assign (s t : GS) (p : PPhi) : GS := stA (stB (stI t p.dst (vi s.ints (phiAt p s.blk))) p.dst (gb s.bools (phiAt p s.blk))) p.dst (vi s.arrs (phiAt p s.blk))
def goG (s : GS) (to : Int) : GS := { s with blk := to, pc := 0 }
def enterG (f : PFunc) (s : GS) (to : Int) : GS :=
 if (blkG f to).phis.all (fun p => decide (0 ≤ phiAt p s.blk)) = true then goG ((blkG f to).phis.foldl (assign s) s) to else stopG (goG s to) 2
def nextG (f : PFunc) (s : GS) : Int := if (blkG f s.blk).term.kind = 0 ∨ gb s.bools (blkG f s.blk).term.var = true then (blkG f s.blk).term.to0 else (blkG f s.blk).term.to1
def stepG (f : PFunc) (s : GS) : GS :=
 match (blkG f s.blk).insts[s.pc]? with
 | some x => instG { s with pc := s.pc + 1, st := s.st + 1 } x
 | none => if (blkG f s.blk).term.kind = 2 then stopG { s with st := s.st + 1, val := vi s.ints (blkG f s.blk).term.var } 0 else enterG f { s with st := s.st + 1 } (nextG f s)
def runG (f : PFunc) : Nat → GS → GS
 | 0, s => s
 | k + 1, s => if s.ended = true then s else runG f k (stepG f s)
def tyL (f : PFunc) (i : Nat) : Int := ((f.vars[i]?).map (·.ty)).getD 0
def begI (f : PFunc) (i : Nat) (a : PArg) : Int := if tyL f i = 0 then a.int else 0
def begB (f : PFunc) (i : Nat) (a : PArg) : Bool := if tyL f i = 0 then false else if tyL f i = 1 then a.b else false
def begA (f : PFunc) (i : Nat) (a : PArg) : Int := if tyL f i = 0 then -1 else if tyL f i = 1 then -1 else a.arr
def fillW {α β : Type} (g : Nat → α → β) (d : β) (n : Nat) (l : List α) : List β := l.zipIdx.map (fun q => g q.2 q.1) ++ List.replicate (n - l.length) d
def begG (f : PFunc) (i : PIn) : GS := ⟨fillW (begI f) 0 f.vars.length i.args, fillW (begB f) false f.vars.length i.args, fillW (begA f) (-1) f.vars.length i.args, i.arrays, 0, 0, 3, 0, 0, [], 0, fun _ => 0, false⟩
structure GInv (f : PFunc) (s : GS) : Prop where
 li : s.ints.length = f.vars.length
 lb : s.bools.length = f.vars.length
 la : s.arrs.length = f.vars.length
 i64 : ∀ x ∈ s.ints, is64 x
 arr : ∀ x ∈ s.arrs, -1 ≤ x ∧ x < s.arrays.length
 ls : s.arrays.length ≤ 40
 lr : ∀ r ∈ s.arrays, r.length ≤ 100
 r64 : ∀ r ∈ s.arrays, ∀ x ∈ r, is64 x
 lt : s.trace.length ≤ 4096
 b0 : 0 ≤ s.blk
 b1 : s.blk < f.blocks.length
 pc : s.pc ≤ (blkG f s.blk).insts.length
theorem vi_get {l : List Int} {v : Int} (h1 : v < l.length) (h0 : 0 ≤ v) : l[v.toNat]? = some (vi l v) := by
 unfold vi; rw [qq (by omega)]; rfl
theorem vi_mem {l : List Int} {v : Int} (h1 : v < l.length) (h0 : 0 ≤ v) : vi l v ∈ l := w1 (vi_get h1 h0)
theorem vi_64 {l : List Int} {v : Int} (h : ∀ x ∈ l, is64 x) : is64 (vi l v) := by
 unfold vi
 cases e : l[v.toNat]? with
 | none => exact ⟨by decide, by decide⟩
 | some x => exact h x (w1 e)
theorem row_get {s : GS} {a : Int} (h0 : 0 ≤ a) (h1 : a < s.arrays.length) : s.arrays[a.toNat]? = some (rowG s a) := by
 unfold rowG; rw [qq (by omega)]; rfl
theorem row_mem {s : GS} {a : Int} (h0 : 0 ≤ a) (h1 : a < s.arrays.length) : rowG s a ∈ s.arrays := w1 (row_get h0 h1)
theorem mem_set_or {α : Type} {l : List α} {n : Nat} {a x : α} (h : x ∈ l.set n a) : x ∈ l ∨ x = a := List.mem_or_eq_of_mem_set h
theorem GInv.stI {f : PFunc} {s : GS} (h : GInv f s) {d v : Int} (hv : is64 v) : GInv f (stI s d v) :=
 ⟨by simp [Go.Proofs.YtiojekbkamegdaaGreatDoor.stI, h.li], h.lb, h.la, fun x hx => (mem_set_or hx).elim (h.i64 x) (fun e => e ▸ hv), h.arr, h.ls, h.lr, h.r64, h.lt, h.b0, h.b1, h.pc⟩
theorem GInv.stB {f : PFunc} {s : GS} (h : GInv f s) {d : Int} {v : Bool} : GInv f (stB s d v) :=
 ⟨h.li, by simp [Go.Proofs.YtiojekbkamegdaaGreatDoor.stB, h.lb], h.la, h.i64, h.arr, h.ls, h.lr, h.r64, h.lt, h.b0, h.b1, h.pc⟩
theorem GInv.stA {f : PFunc} {s : GS} (h : GInv f s) {d v : Int} (hv : -1 ≤ v ∧ v < s.arrays.length) : GInv f (stA s d v) :=
 ⟨h.li, h.lb, by simp [Go.Proofs.YtiojekbkamegdaaGreatDoor.stA, h.la], h.i64, fun x hx => (mem_set_or hx).elim (h.arr x) (fun e => e ▸ hv), h.ls, h.lr, h.r64, h.lt, h.b0, h.b1, h.pc⟩
theorem GInv.stop {f : PFunc} {s : GS} (h : GInv f s) (e : Int) : GInv f (stopG s e) := ⟨h.li, h.lb, h.la, h.i64, h.arr, h.ls, h.lr, h.r64, h.lt, h.b0, h.b1, h.pc⟩
theorem GInv.trap {f : PFunc} {s : GS} (h : GInv f s) (t : Int) : GInv f (trapG s t) := ⟨h.li, h.lb, h.la, h.i64, h.arr, h.ls, h.lr, h.r64, h.lt, h.b0, h.b1, h.pc⟩
theorem GInv.bump {f : PFunc} {s : GS} (h : GInv f s) (t : Nat) : GInv f (bumpG s t) := ⟨h.li, h.lb, h.la, h.i64, h.arr, h.ls, h.lr, h.r64, h.lt, h.b0, h.b1, h.pc⟩
theorem arr_at {f : PFunc} {s : GS} (h : GInv f s) {v : Int} (h1 : v < f.vars.length) (h0 : 0 ≤ v) : -1 ≤ vi s.arrs v ∧ vi s.arrs v < s.arrays.length :=
 h.arr _ (vi_mem (by rw [h.la]; exact h1) h0)
theorem arr_any {f : PFunc} {s : GS} (h : GInv f s) {v : Int} (hn : v < f.vars.length ∧ 0 ≤ v) : -1 ≤ vi s.arrs v ∧ vi s.arrs v < s.arrays.length := arr_at h hn.1 hn.2
theorem place_iff {s : GS} {a i : Int} : placeG s a i = true ↔ 0 ≤ a ∧ a < s.arrays.length ∧ 0 ≤ i ∧ i < (rowG s a).length := by unfold placeG; rw [w9]
theorem wrap_64 (x : Int) : is64 (IntKind.i64.wrap x) := by
 rw [wrap_s]; unfold is64; omega
theorem rem_64 (a b : Int) : is64 (remG a b) := by
 unfold remG; split
 ·exact ⟨by decide, by decide⟩
 ·exact wrap_64 _
theorem has_lt {f : PFunc} {v : Int} (h : hasV f v = true) : v < f.vars.length ∧ 0 ≤ v := by
 unfold hasV at h; simp at h; exact ⟨h.2, h.1⟩
theorem InstF.a0 {f : PFunc} {x : PInst} (h : InstF f x) (hl : 0 < x.args.length) : ar0 x < f.vars.length ∧ 0 ≤ ar0 x := by
 unfold ar0; rw [qq hl]; exact has_lt (h.args _ (qu hl))
theorem InstF.a1 {f : PFunc} {x : PInst} (h : InstF f x) (hl : 1 < x.args.length) : ar1 x < f.vars.length ∧ 0 ≤ ar1 x := by
 unfold ar1; rw [qq hl]; exact has_lt (h.args _ (qu hl))
theorem InstF.a2 {f : PFunc} {x : PInst} (h : InstF f x) (hl : 2 < x.args.length) : ar2 x < f.vars.length ∧ 0 ≤ ar2 x := by
 unfold ar2; rw [qq hl]; exact has_lt (h.args _ (qu hl))
theorem takesN : ∀ j : Nat, j < 27 → (takesL (j : Int)).length = ([0, 1, 2, 2, 2, 2, 2, 2, 2, 2, 1, 2, 1, 2, 3, 1, 0, 1, 2, 1, 1, 2, 2, 2, 1, 2, 2][j]?).getD 0 := by decide
theorem InstF.argc {f : PFunc} {x : PInst} (h : InstF f x) : x.args.length = ([0, 1, 2, 2, 2, 2, 2, 2, 2, 2, 1, 2, 1, 2, 3, 1, 0, 1, 2, 1, 1, 2, 2, 2, 1, 2, 2][x.op.toNat]?).getD 0 := by
 have h1 := h.op
 obtain ⟨j, e⟩ : ∃ j : Nat, x.op = (j : Int) := ⟨x.op.toNat, by omega⟩
 rw [h.len, e, takesN j (by omega), Int.toNat_natCast]
theorem makesN : ∀ j : Nat, j < 27 → makesB (j : Int) = ([true, true, true, true, true, true, true, true, true, true, true, true, true, true, false, true, true, false, false, false, false, false, false, false, false, true, true][j]?).getD false := by decide
theorem InstF.made {f : PFunc} {x : PInst} (h : InstF f x) (hm : ([true, true, true, true, true, true, true, true, true, true, true, true, true, true, false, true, true, false, false, false, false, false, false, false, false, true, true][x.op.toNat]?).getD false = true) : x.dst < f.vars.length ∧ 0 ≤ x.dst := by
 have h1 := h.op
 obtain ⟨j, e⟩ : ∃ j : Nat, x.op = (j : Int) := ⟨x.op.toNat, by omega⟩
 rw [e, Int.toNat_natCast, ← makesN j (by omega), ← e] at hm
 rcases h.dst with g | g
 ·rw [g.1] at hm; cases hm
 ·exact has_lt g.2.2
theorem GInv.doG {f : PFunc} {s : GS} (h : GInv f s) {x : PInst} (hx : InstF f x) (h64 : is64 x.num) : GInv f (doG s x) := by
 have hc := hx.argc
 have st : ∀ e, GInv f (stopG s e) := h.stop
 have wr : ∀ d v, GInv f (Go.Proofs.YtiojekbkamegdaaGreatDoor.stI s d (IntKind.i64.wrap v)) := fun _ _ => h.stI (wrap_64 _)
 have bo : ∀ d v, GInv f (Go.Proofs.YtiojekbkamegdaaGreatDoor.stB s d v) := fun _ _ => h.stB
 unfold Go.Proofs.YtiojekbkamegdaaGreatDoor.doG
 by_cases e : x.op = 0
 ·rw [if_pos e]; exact h.stI h64
 rw [if_neg e]; clear e
 by_cases e : x.op = 1 ∨ x.op = 25 ∨ x.op = 26
 ·rw [if_pos e]
  refine GInv.stA (s := Go.Proofs.YtiojekbkamegdaaGreatDoor.stB (Go.Proofs.YtiojekbkamegdaaGreatDoor.stI s x.dst (aG s x)) x.dst (pG s x)) (h.stI (vi_64 h.i64)).stB ?_
  exact arr_any h (hx.a0 (by rcases e with e | e | e <;> (rw [e] at hc; rw [hc]; decide)))
 rw [if_neg e]; clear e
 by_cases e : x.op = 2
 ·rw [if_pos e]; exact wr _ _
 rw [if_neg e]; clear e
 by_cases e : x.op = 3
 ·rw [if_pos e]; exact wr _ _
 rw [if_neg e]; clear e
 by_cases e : x.op = 4
 ·rw [if_pos e]; exact wr _ _
 rw [if_neg e]; clear e
 by_cases e : x.op = 5
 ·rw [if_pos e]
  split
  ·exact st 2
  ·exact wr _ _
 rw [if_neg e]; clear e
 by_cases e : x.op = 6
 ·rw [if_pos e]
  split
  ·exact st 2
  ·exact h.stI (rem_64 _ _)
 rw [if_neg e]; clear e
 by_cases e : x.op = 7
 ·rw [if_pos e]; exact bo _ _
 rw [if_neg e]; clear e
 by_cases e : x.op = 8
 ·rw [if_pos e]; exact bo _ _
 rw [if_neg e]; clear e
 by_cases e : x.op = 9
 ·rw [if_pos e]; exact bo _ _
 rw [if_neg e]; clear e
 by_cases e : x.op = 10
 ·rw [if_pos e]; exact bo _ _
 rw [if_neg e]; clear e
 by_cases e : x.op = 11
 ·rw [if_pos e]; exact bo _ _
 rw [if_neg e]; clear e
 by_cases e : x.op = 12
 ·rw [if_pos e]
  split
  ·exact st 2
  ·rename_i hr
   have hl := h.lr _ (row_mem (by omega) (arr_any h (hx.a0 (by rw [e] at hc; rw [hc]; decide))).2 : rowG s (rG s x) ∈ s.arrays)
   exact h.stI ⟨by omega, by omega⟩
 rw [if_neg e]; clear e
 by_cases e : x.op = 13
 ·rw [if_pos e]
  split
  ·rename_i hp
   obtain ⟨h1, h2, _⟩ := place_iff.1 hp
   exact h.stI (vi_64 (h.r64 _ (row_mem h1 h2)))
  ·exact st 2
 rw [if_neg e]; clear e
 by_cases e : x.op = 14
 ·rw [if_pos e]
  split
  ·rename_i hp
   obtain ⟨h1, h2, _⟩ := place_iff.1 hp
   refine ⟨h.li, h.lb, h.la, h.i64, fun y hy => by simpa using h.arr y hy, by simpa using h.ls, fun r hr => ?_, fun r hr => ?_, h.lt, h.b0, h.b1, h.pc⟩
   ·rcases mem_set_or hr with hr | hr
    ·exact h.lr r hr
    ·rw [hr, List.length_set]; exact h.lr _ (row_mem h1 h2)
   ·rcases mem_set_or hr with hr | hr
    ·exact h.r64 r hr
    ·intro y hy
     rw [hr] at hy
     rcases mem_set_or hy with hy | hy
     ·exact h.r64 _ (row_mem h1 h2) y hy
     ·rw [hy]; exact vi_64 h.i64
  ·exact st 2
 rw [if_neg e]; clear e
 by_cases e : x.op = 15
 ·rw [if_pos e]
  split
  ·exact st 2
  ·rename_i ha
   split
   ·exact st 3
   ·rename_i hs
    refine GInv.stA (s := { s with arrays := s.arrays ++ [List.replicate (aG s x).toNat 0] }) ⟨h.li, h.lb, h.la, h.i64, fun y hy => ?_, ?_, fun r hr => ?_, fun r hr => ?_, h.lt, h.b0, h.b1, h.pc⟩ ?_
    ·have := h.arr y hy
     simp only [qw, List.length_singleton]; omega
    ·simp only [qw, List.length_singleton]; omega
    ·rcases List.mem_append.1 hr with hr | hr
     ·exact h.lr r hr
     ·rw [List.mem_singleton.1 hr, List.length_replicate]; omega
    ·rcases List.mem_append.1 hr with hr | hr
     ·exact h.r64 r hr
     ·intro y hy
      rw [List.mem_singleton.1 hr] at hy
      rw [(List.mem_replicate.1 hy).2]; exact ⟨by decide, by decide⟩
    ·simp only [qw, List.length_singleton]; omega
 rw [if_neg e]; clear e
 by_cases e : x.op = 16
 ·rw [if_pos e]; exact h.stA ⟨by omega, by omega⟩
 rw [if_neg e]; clear e
 split
 ·exact st 3
 ·rename_i ht
  exact ⟨h.li, h.lb, h.la, h.i64, h.arr, h.ls, h.lr, h.r64, by simp only [qw, List.length_singleton]; omega, h.b0, h.b1, h.pc⟩
theorem GInv.inst {f : PFunc} {s : GS} (h : GInv f s) {x : PInst} (hx : InstF f x) (h64 : is64 x.num) : GInv f (instG s x) := by
 unfold instG
 split
 ·split
  ·exact h.bump _
  ·exact (h.bump _).trap _
 ·exact h.doG hx h64
structure RunP (f : PFunc) : Prop where
 pos : 0 < f.blocks.length
 phis : ∀ b ∈ f.blocks, ∀ p ∈ b.phis, PhiP f p
 insts : ∀ b ∈ f.blocks, ∀ x ∈ b.insts, InstF f x ∧ is64 x.num
 term : ∀ b ∈ f.blocks, termOK f b.term = true
theorem blk_get {f : PFunc} {b : Int} (h0 : 0 ≤ b) (h1 : b < f.blocks.length) : f.blocks[b.toNat]? = some (blkG f b) := by
 unfold blkG; rw [qq (by omega)]; rfl
theorem blk_mem {f : PFunc} {b : Int} (h0 : 0 ≤ b) (h1 : b < f.blocks.length) : blkG f b ∈ f.blocks := w1 (blk_get h0 h1)
theorem phiAt_mem {p : PPhi} {b : Int} (h : 0 ≤ phiAt p b) : phiAt p b ∈ p.args := by
 unfold phiAt at h ⊢
 cases e : (p.from_.zip p.args).find? fun q => decide (q.1 = b) with
 | none => rw [e] at h; simp at h
 | some q => exact (List.of_mem_zip (List.mem_of_find?_eq_some e)).2
theorem GInv.assign {f : PFunc} {s t : GS} (h : GInv f s) (ht : GInv f t) (ha : t.arrays = s.arrays) {p : PPhi} (hp : PhiP f p) (h0 : 0 ≤ phiAt p s.blk) : GInv f (assign s t p) ∧ (assign s t p).arrays = s.arrays := by
 have hv := has_lt (List.all_eq_true.1 hp.2.2.2.1 _ (phiAt_mem h0))
 refine ⟨GInv.stA (s := Go.Proofs.YtiojekbkamegdaaGreatDoor.stB (Go.Proofs.YtiojekbkamegdaaGreatDoor.stI t p.dst _) p.dst _) (ht.stI (vi_64 h.i64)).stB ?_, ha⟩
 show _ ∧ _ < (t.arrays.length : Int)
 rw [ha]; exact arr_any h hv
theorem GInv.assigns {f : PFunc} {s : GS} (h : GInv f s) : ∀ (l : List PPhi) (t : GS), GInv f t → t.arrays = s.arrays → (∀ p ∈ l, PhiP f p ∧ 0 ≤ phiAt p s.blk) → GInv f (l.foldl (Go.Proofs.YtiojekbkamegdaaGreatDoor.assign s) t)
 | [], t, ht, _, _ => ht
 | p :: l, t, ht, ha, hl => by
  obtain ⟨h1, h2⟩ := h.assign ht ha (hl p (.head _)).1 (hl p (.head _)).2
  exact h.assigns l _ h1 h2 fun q hq => hl q (.tail _ hq)
theorem GInv.goG {f : PFunc} {s : GS} (h : GInv f s) {to : Int} (h0 : 0 ≤ to) (h1 : to < f.blocks.length) : GInv f (goG s to) := ⟨h.li, h.lb, h.la, h.i64, h.arr, h.ls, h.lr, h.r64, h.lt, h0, h1, qt _⟩
theorem GInv.enter {f : PFunc} {s : GS} (hR : RunP f) (h : GInv f s) {to : Int} (h0 : 0 ≤ to) (h1 : to < f.blocks.length) : GInv f (enterG f s to) := by
 unfold enterG
 split
 ·rename_i ha
  exact (h.assigns _ s h rfl fun p hp => ⟨hR.phis _ (blk_mem h0 h1) p hp, of_decide_eq_true (List.all_eq_true.1 ha p hp)⟩).goG h0 h1
 ·exact (h.goG h0 h1).stop 2
theorem term_to {f : PFunc} {t : PTerm} (h : termOK f t = true) (hk : ¬ t.kind = 2) : (0 ≤ t.to0 ∧ t.to0 < f.blocks.length) ∧ (¬ t.kind = 0 → t.kind = 1 ∧ (0 ≤ t.to1 ∧ t.to1 < f.blocks.length)) := by
 unfold termOK at h
 split at h
 ·rename_i e
  simp only [w6, hasB, w9] at h
  exact ⟨h.1.1, fun g => absurd e g⟩
 ·split at h
  ·rename_i e
   simp only [w6, hasB, w9] at h
   exact ⟨h.1.2, fun _ => ⟨e, h.2⟩⟩
  ·simp [hk] at h
theorem next_to {f : PFunc} (hR : RunP f) {s : GS} (h : GInv f s) (hk : ¬ (blkG f s.blk).term.kind = 2) : 0 ≤ nextG f s ∧ nextG f s < f.blocks.length := by
 have ht := term_to (hR.term _ (blk_mem h.b0 h.b1)) hk
 unfold nextG
 split
 ·exact ht.1
 ·rename_i e
  exact (ht.2 fun g => e (.inl g)).2
theorem GInv.up {f : PFunc} {s : GS} (h : GInv f s) (n : Nat) (v : Int) : GInv f { s with st := n, val := v } := ⟨h.li, h.lb, h.la, h.i64, h.arr, h.ls, h.lr, h.r64, h.lt, h.b0, h.b1, h.pc⟩
theorem GInv.step {f : PFunc} (hR : RunP f) {s : GS} (h : GInv f s) : GInv f (stepG f s) := by
 unfold stepG
 split
 ·rename_i x hx
  obtain ⟨hi, h64⟩ := hR.insts _ (blk_mem h.b0 h.b1) x (w1 hx)
  obtain ⟨hp, _⟩ := List.getElem?_eq_some_iff.1 hx
  exact GInv.inst (s := { s with pc := s.pc + 1, st := s.st + 1 }) ⟨h.li, h.lb, h.la, h.i64, h.arr, h.ls, h.lr, h.r64, h.lt, h.b0, h.b1, hp⟩ hi h64
 ·split
  ·exact (h.up _ _).stop 0
  ·rename_i hk
   obtain ⟨h0, h1⟩ := next_to hR h hk
   exact GInv.enter hR (s := { s with st := s.st + 1 }) (h.up _ s.val) h0 h1
end Go.Proofs.YtiojekbkamegdaaGreatDoor
