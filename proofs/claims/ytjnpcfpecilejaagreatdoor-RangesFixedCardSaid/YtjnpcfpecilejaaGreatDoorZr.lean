/- The law RangesRule: its example, and the rules. No conditions. -/
import Derived.Test.YtjnpcfpecilejaaGreatDoorZp
import Derived.Test.YtjnpcfpecilejaaGreatDoorZn
import Derived.Test.YtjnpcfpecilejaaGreatDoorZq
import Derived.Test.YtjnpcfpecilejaaGreatDoorZc
set_option linter.unusedVariables false
set_option linter.unusedSimpArgs false
set_option linter.unusedSectionVars false
namespace Go.Proofs.YtjnpcfpecilejaaGreatDoor
open Go.Proofs.Tryz
def rF (f : PFunc) : List Rng → Int → Rng := ruleR f (chkV f)
def madeV (f : PFunc) : List Int := (madeL f).map (·.1)
def widF (f : PFunc) (n : Nat) (v : Int) : Option Rng := if 4 ≤ n ∧ (makerT f v).2 = -1 then some (rType (tyV f v)) else none
def nextR (f : PFunc) (l : List Rng) (v : Int) (phi : Bool) (how : Int) : Rng :=
 if how = 2 then rMeet (lv l v) (rF f l v) else if how = 1 ∧ phi = true then widQ (rType (tyV f v)) (lv l v) (rF f l v) else rJoin (lv l v) (rF f l v)
def putS (f : PFunc) (how : Int) (s : List Rng × Bool) (q : Int × Bool) : List Rng × Bool := (s.1.set q.1.toNat (nextR f s.1 q.1 q.2 how), !decide (nextR f s.1 q.1 q.2 how = lv s.1 q.1) || s.2)
def rndS (f : PFunc) (how : Int) (qs : List (Int × Bool)) (s : List Rng × Bool) : List Rng × Bool := qs.foldl (putS f how) s
theorem rndS_snoc (f : PFunc) (how : Int) (qs : List (Int × Bool)) (q : Int × Bool) (s : List Rng × Bool) : rndS f how (qs ++ [q]) s = putS f how (rndS f how qs s) q := by unfold rndS; rw [List.foldl_append]; rfl
def MadeF (f : PFunc) : Prop := ∀ q ∈ madeL f, 0 ≤ q.1 ∧ q.1 < f.vars.length ∧ 0 ≤ (makerT f q.1).1 ∧ (q.2 = true ↔ (makerT f q.1).2 = -1)
theorem made_rules {f : PFunc} (hf : RuleOk f) (hm : MadeF f) : Rules f.vars.length (rF f) (madeV f) := ruleR_rules hf _ fun v hv => by
 obtain ⟨q, hq, rfl⟩ := List.mem_map.1 hv
 have := hm q hq
 exact ⟨this.1, this.2.1⟩
theorem wid_ok (f : PFunc) (i : Nat) (v : Int) (t : Rng) (h : widF f i v = some t) : ok64 t := by
 unfold widF at h
 split at h
 ·cases h; exact rType_ok _
 ·cases h
def hows (how : Int) (n : Nat) : Prop := how = if 4 ≤ n then 1 else 0
theorem next_grow {f : PFunc} (hm : MadeF f) {how : Int} {n : Nat} (hh : hows how n) (l : List Rng) {q : Int × Bool} (hq : q ∈ madeL f) : nextR f l q.1 q.2 how = growR (rF f) (widF f n) l q.1 := by
 obtain ⟨_, _, _, h⟩ := hm q hq
 unfold nextR growR widF
 unfold hows at hh
 subst hh
 by_cases h4 : 4 ≤ n
 ·rw [if_pos h4, if_neg (by decide)]
  by_cases c : (makerT f q.1).2 = -1
  ·rw [if_pos ⟨rfl, h.2 c⟩, if_pos ⟨h4, c⟩]
  ·rw [if_neg (fun e => c (h.1 e.2)), if_neg (fun e => c e.2)]
 ·rw [if_neg h4, if_neg (by decide), if_neg (fun e => by simp at e), if_neg (fun e => h4 e.1)]
theorem rnd_grow {f : PFunc} (hR : Rules f.vars.length (rF f) (madeV f)) (hm : MadeF f) {how : Int} {n : Nat} (hh : hows how n) : ∀ (qs : List (Int × Bool)) (l : List Rng) (c : Bool), (∀ q ∈ qs, q ∈ madeL f) → GOkR f.vars.length l →
  GOkR f.vars.length (rndS f how qs (l, c)).1 ∧ (rndS f how qs (l, c)).1 = growA (rF f) (widF f n) (qs.map (·.1)) l ∧ ((rndS f how qs (l, c)).2 = true ↔ c = true ∨ growA (rF f) (widF f n) (qs.map (·.1)) l ≠ l)
 | [], l, c, _, hl => ⟨hl, rfl, by simp [rndS, growA]⟩
 | q :: qs, l, c, hs, hl => by
  have hq := hs q (.head _)
  have hqv : q.1 ∈ madeV f := List.mem_map.2 ⟨q, hq, rfl⟩
  obtain ⟨h1, h2, h3⟩ := growS_ok hR (wid_ok f n) hl hqv
  have hn := next_grow hm hh l hq
  obtain ⟨g1, g2, g3⟩ := rnd_grow hR hm hh qs (growS (rF f) (widF f n) l q.1) (!decide (growR (rF f) (widF f n) l q.1 = lv l q.1) || c) (fun x hx => hs x (.tail _ hx)) h1
  have e : rndS f how (q :: qs) (l, c) = rndS f how qs (growS (rF f) (widF f n) l q.1, !decide (growR (rF f) (widF f n) l q.1 = lv l q.1) || c) := by
   show rndS f how qs (putS f how (l, c) q) = _
   unfold putS growS
   dsimp only
   rw [hn]
  have e2 : growA (rF f) (widF f n) ((q :: qs).map (·.1)) l = growA (rF f) (widF f n) (qs.map (·.1)) (growS (rF f) (widF f n) l q.1) := rfl
  rw [e, e2]
  refine ⟨g1, g2, ?_⟩
  rw [g3]
  obtain ⟨k1, k2, k3⟩ := growA_ok hR (wid_ok f n) (qs.map (·.1)) (growS (rF f) (widF f n) l q.1) (fun x hx => by obtain ⟨y, hy, rfl⟩ := List.mem_map.1 hx; exact List.mem_map.2 ⟨y, hs y (.tail _ hy), rfl⟩) h1
  by_cases c0 : growR (rF f) (widF f n) l q.1 = lv l q.1
  ·have hr := hR.rng q.1 hqv
   have e3 := growS_same (rule := rF f) (wid := widF f n) (l := l) (v := q.1) hr.1 (by rw [hl.ok.1]; omega) c0
   rw [e3, decide_eq_true c0]
   simp
  ·have h4 := h2.resolve_left c0
   rw [decide_eq_false c0]
   simp only [Bool.not_false, Bool.true_or, true_or, true_iff]
   refine .inr fun h => ?_
   rw [h] at k2
   omega
theorem rnd_meet {f : PFunc} (hR : Rules f.vars.length (rF f) (madeV f)) : ∀ (qs : List (Int × Bool)) (l : List Rng) (c : Bool), (∀ q ∈ qs, q ∈ madeL f) → okL64 f.vars.length l →
  okL64 f.vars.length (rndS f 2 qs (l, c)).1 ∧ (rndS f 2 qs (l, c)).1 = (qs.map (·.1)).foldl (narrow (rF f)) l
 | [], l, c, _, hl => ⟨hl, rfl⟩
 | q :: qs, l, c, hs, hl => by
  have hq := hs q (.head _)
  have hqv : q.1 ∈ madeV f := List.mem_map.2 ⟨q, hq, rfl⟩
  have h1 := narrow_ok hR hl hqv
  exact rnd_meet hR qs (narrow (rF f) l q.1) (!decide (nextR f l q.1 q.2 2 = lv l q.1) || c) (fun x hx => hs x (.tail _ hx)) h1
theorem rnd_ok {f : PFunc} (hR : Rules f.vars.length (rF f) (madeV f)) (how : Int) : ∀ (qs : List (Int × Bool)) (s : List Rng × Bool), (∀ q ∈ qs, q ∈ madeL f) → okL64 f.vars.length s.1 → okL64 f.vars.length (rndS f how qs s).1
 | [], s, _, hl => hl
 | q :: qs, s, hs, hl => by
  have hq := hs q (.head _)
  have hqv : q.1 ∈ madeV f := List.mem_map.2 ⟨q, hq, rfl⟩
  have hr := hR.rng q.1 hqv
  refine rnd_ok hR how qs _ (fun x hx => hs x (.tail _ hx)) ⟨by unfold putS; dsimp only; rw [List.length_set]; exact hl.1, fun u hu => ?_⟩
  unfold putS
  dsimp only
  rw [lv_set hr.1 (by rw [hl.1]; omega) _ hu]
  have h1 := hl.2 q.1 hr.1
  have h2 := hR.ok s.1 q.1 hl.1 hl.2 hqv
  split
  ·unfold nextR
   split
   ·exact rMeet_ok h1 h2
   ·split
    ·exact widQ_ok (rType_ok _) h1 h2
    ·exact rJoin_ok h1 h2
  ·exact hl.2 u hu
def rndF (f : PFunc) : Nat → List Rng
 | 0 => firstL f
 | i + 1 => growA (rF f) (widF f (i + 1)) (madeV f) (rndF f i)
structure Stops (f : PFunc) (K : Nat) : Prop where
 still : rndF f (K + 1) = rndF f K
 moves : ∀ i, i < K → rndF f (i + 1) ≠ rndF f i
def endF (f : PFunc) (K : Nat) : List Rng := (madeV f).foldl (narrow (rF f)) ((madeV f).foldl (narrow (rF f)) (rndF f K))
theorem firstR_okn (f : PFunc) (v : Int) : ok64 (firstR f v) ∧ nrm (firstR f v) := by
 unfold firstR
 split
 ·refine ⟨rType_ok _, ?_⟩
  unfold rType nrm
  (repeat' split) <;> exact fun h => by revert h; decide
 ·exact ⟨⟨by decide, by decide⟩, fun h => absurd h (by decide)⟩
theorem firstL_lv {f : PFunc} {u : Int} (hu : 0 ≤ u) : lv (firstL f) u = if u < f.vars.length then first0R f u else noR := by
 unfold lv firstL
 rw [List.getElem?_map]
 by_cases c : u < f.vars.length
 ·rw [if_pos c, List.getElem?_range (by omega)]
  simp only [Option.map_some, Option.getD_some]
  rw [Int.toNat_of_nonneg hu]
 ·rw [if_neg c, List.getElem?_eq_none (by simp; omega)]; rfl
theorem firstL_g (f : PFunc) : GOkR f.vars.length (firstL f) := by
 have key : ∀ u : Int, 0 ≤ u → ok64 (lv (firstL f) u) ∧ nrm (lv (firstL f) u) := fun u hu => by
  rw [firstL_lv hu]
  have h0 : ok64 noR ∧ nrm noR := ⟨noR_ok, fun _ => rfl⟩
  split
  ·unfold first0R
   split
   ·exact firstR_okn f u
   ·exact h0
  ·exact h0
 exact ⟨⟨firstL_len f, fun u hu => (key u hu).1⟩, fun u hu => (key u hu).2⟩
theorem rndF_g {f : PFunc} (hR : Rules f.vars.length (rF f) (madeV f)) : ∀ i, GOkR f.vars.length (rndF f i)
 | 0 => firstL_g f
 | i + 1 => (growA_ok hR (wid_ok f (i + 1)) (madeV f) _ (fun _ h => h) (rndF_g hR i)).1
theorem least_of {p : Nat → Prop} : ∀ (n : Nat), p n → ∃ k, k ≤ n ∧ p k ∧ ∀ i, i < k → ¬ p i
 | n, h => by
  by_cases c : ∃ m, m < n ∧ p m
  ·obtain ⟨m, hm, hp⟩ := c
   obtain ⟨k, h1, h2, h3⟩ := least_of m hp
   exact ⟨k, by omega, h2, h3⟩
  ·exact ⟨n, Nat.le_refl _, h, fun i hi hp => c ⟨i, hi, hp⟩⟩
theorem stops_ex {f : PFunc} (hR : Rules f.vars.length (rF f) (madeV f)) : ∃ K, Stops f K := by
 have key : ∀ i, (∃ j, j < i ∧ rndF f (j + 1) = rndF f j) ∨ i ≤ rtot (rndF f i) := fun i => by
  induction i with
  | zero => exact .inr (Nat.zero_le _)
  | succ i ih =>
   rcases ih with ⟨j, hj, h⟩ | h
   ·exact .inl ⟨j, by omega, h⟩
   ·rcases (growA_ok hR (wid_ok f (i + 1)) (madeV f) _ (fun _ h => h) (rndF_g hR i)).2.2 with h2 | h2
    ·exact .inl ⟨i, by omega, h2⟩
    ·right
     show _ ≤ rtot (growA (rF f) (widF f (i + 1)) (madeV f) (rndF f i))
     omega
 rcases key (f.vars.length * 18446744073709551616 + 1) with ⟨j, _, h⟩ | h
 ·obtain ⟨k, _, h1, h2⟩ := least_of (p := fun j => rndF f (j + 1) = rndF f j) j h
  exact ⟨k, h1, h2⟩
 ·have := rtot_le (rndF_g hR (f.vars.length * 18446744073709551616 + 1)).ok
  omega
theorem Stops.eq {f : PFunc} {K K' : Nat} (h : Stops f K) (h' : Stops f K') : K = K' := by
 rcases Nat.lt_trichotomy K K' with c | c | c
 ·exact absurd h.still (h'.moves K c)
 ·exact c
 ·exact absurd h'.still (h.moves K' c)
theorem endF_post {f : PFunc} (hR : Rules f.vars.length (rF f) (madeV f)) {K : Nat} (h : Stops f K) : okL64 f.vars.length (endF f K) ∧ PostR (rF f) (madeV f) (endF f K) := by
 have h1 := rndF_g hR K
 have h2 := grow_post (growA_still hR (wid_ok f (K + 1)) (madeV f) _ (fun _ h => h) h1 h.still)
 obtain ⟨g1, g2⟩ := narrow_all hR (madeV f) _ (fun _ h => h) h1.ok h2
 exact narrow_all hR (madeV f) _ (fun _ h => h) g1 g2
theorem narrow_keep {f : PFunc} (hR : Rules f.vars.length (rF f) (madeV f)) {u : Int} (hu : 0 ≤ u) (hn : u ∉ madeV f) : ∀ (us : List Int) (l : List Rng), (∀ x ∈ us, x ∈ madeV f) → okL64 f.vars.length l → lv (us.foldl (narrow (rF f)) l) u = lv l u
 | [], _, _, _ => rfl
 | x :: us, l, hs, hl => by
  have hx := hs x (.head _)
  have hr := hR.rng x hx
  rw [List.foldl_cons, narrow_keep hR hu hn us _ (fun y hy => hs y (.tail _ hy)) (narrow_ok hR hl hx)]
  unfold narrow
  rw [lv_set hr.1 (by rw [hl.1]; omega) _ hu, if_neg (fun e : u = x => hn (by rw [e]; exact hx))]
theorem grow_keep {f : PFunc} (hR : Rules f.vars.length (rF f) (madeV f)) {n : Nat} {u : Int} (hu : 0 ≤ u) (hn : u ∉ madeV f) : ∀ (us : List Int) (l : List Rng), (∀ x ∈ us, x ∈ madeV f) → GOkR f.vars.length l → lv (growA (rF f) (widF f n) us l) u = lv l u
 | [], _, _, _ => rfl
 | x :: us, l, hs, hl => by
  have hx := hs x (.head _)
  have hr := hR.rng x hx
  show lv (growA (rF f) (widF f n) us (growS (rF f) (widF f n) l x)) u = _
  rw [grow_keep hR hu hn us _ (fun y hy => hs y (.tail _ hy)) (growS_ok hR (wid_ok f n) hl hx).1]
  unfold growS
  rw [lv_set hr.1 (by rw [hl.ok.1]; omega) _ hu, if_neg (fun e : u = x => hn (by rw [e]; exact hx))]
theorem endF_keep {f : PFunc} (hR : Rules f.vars.length (rF f) (madeV f)) {u : Int} (hu : 0 ≤ u) (hn : u ∉ madeV f) (K : Nat) : lv (endF f K) u = lv (firstL f) u := by
 have hk : ∀ i, lv (rndF f i) u = lv (firstL f) u := fun i => by
  induction i with
  | zero => rfl
  | succ i ih => rw [← ih]; exact grow_keep hR hu hn (madeV f) _ (fun _ h => h) (rndF_g hR i)
 have h1 := narrow_keep hR hu hn (madeV f) (rndF f K) (fun _ h => h) (rndF_g hR K).ok
 have h2 : okL64 f.vars.length ((madeV f).foldl (narrow (rF f)) (rndF f K)) := by
  have : ∀ (us : List Int) (l : List Rng), (∀ x ∈ us, x ∈ madeV f) → okL64 f.vars.length l → okL64 f.vars.length (us.foldl (narrow (rF f)) l) := fun us => by
   induction us with
   | nil => intro l _ hl; exact hl
   | cons x us ih => intro l hs hl; exact ih _ (fun y hy => hs y (.tail _ hy)) (narrow_ok hR hl (hs x (.head _)))
  exact this (madeV f) _ (fun _ h => h) (rndF_g hR K).ok
 unfold endF
 rw [narrow_keep hR hu hn (madeV f) _ (fun _ h => h) h2, h1, hk K]
end Go.Proofs.YtjnpcfpecilejaaGreatDoor
namespace Go.Proofs.YtjnpcfpecilejaaGreatDoor
open Go.Proofs.Tryz
open Go.Proofs
theorem knowL {I : G} {F : List (Nat × Obj)} {E w : World} {i k m : Nat} {T : TypeId} {rows : List (List AV)} (hk : ∀ r ∈ rows, r.length = k) (hk0 : 0 < k) (hm : rows.length = m) (h : SLA I [(i, .grow k T rows.flatten)] F E w) :
  ∃ J L, I.le J ∧ RepOs I [(i, .grow k T rows.flatten)] L ∧ SL I.k (L ++ F) E w ∧ (∀ y ∈ L, J.k y.1 = some y.2) ∧ SLA J [] F E w ∧ ∀ v, RepV I (.own i m) v → RepV J (.fro k rows) v := by
 obtain ⟨ht, L, hL, hS⟩ := h
 have hL0 := hL
 obtain ⟨A, B, hp, ⟨b, c, n, vs, e1, hvs, hvc, hown⟩, hB⟩ := hL
 have hB : B = [] := hB
 simp only at e1
 rw [hB, List.append_nil] at hp
 subst hp
 have hflat : rows.flatten.length = rows.length * k := by
  clear hvs hm hL0
  induction rows with
  | nil => simp
  | cons r rows ih => simp only [List.flatten_cons, List.length_append, List.length_cons, ih (fun r h => hk r (by simp [h])), hk r (by simp), Nat.add_mul]; omega
 have hnm : n = m := by
  have h5 := hown.1
  have h6 := hvs.length
  have : n * k = m * k := by rw [← hm]; omega
  exact Nat.eq_of_mul_eq_mul_right hk0 this
 subst hnm
 obtain ⟨h5, h6, h7⟩ := hown
 rcases h7 with ⟨ea, rfl, rfl⟩ | ⟨b', junk, ea, rfl, hj⟩
 ·refine ⟨I, [], .refl _, hL0, hS, fun y hy => (by cases hy), ⟨ht, [], rfl, by simpa using hS⟩, ?_⟩
  rintro v ⟨b2, c2, e2, rfl⟩
  rw [e1] at e2
  simp only [Option.some.injEq, Prod.mk.injEq] at e2
  obtain ⟨rfl, rfl⟩ := e2
  have h0 : rows = [] := List.eq_nil_of_length_eq_zero (by omega)
  subst h0
  exact ⟨adr b, n, 0, rfl, hm.symm, h6, fun _ => rfl, trivial⟩
 ·cases b with
  | none => simp [adr] at ea
  | some b =>
   simp [adr] at ea
   subst ea
   obtain ⟨hl, hS3⟩ := SL.freeze (by simpa using hS : SL I.k ((b, .cells (vs ++ junk).toArray T (0, 0)) :: F) E w)
   let J : G := ⟨I.k.put b (.cells (vs ++ junk).toArray T (0, 0)), I.h⟩
   have hle : I.le J := ⟨hl, fun _ _ h => h⟩
   have hb : J.k b = some (.cells (vs ++ junk).toArray T (0, 0)) := Ghost.put_same _ _ _
   refine ⟨J, _, hle, hL0, hS, fun y hy => (by rw [List.mem_singleton.1 hy]; exact hb), ⟨ht, [], rfl, by simpa using hS3⟩, ?_⟩
   rintro v ⟨b2, c2, e2, rfl⟩
   rw [e1] at e2
   simp only [Option.some.injEq, Prod.mk.injEq] at e2
   obtain ⟨rfl, rfl⟩ := e2
   refine ⟨adr (some b), n, c, rfl, hm.symm, h6, fun h => by simp [adr] at h, RepR.of_flat hb rows vs 0 hk (RepL.mono hle _ _ hvs) fun i u hu => ?_⟩
   rw [Nat.zero_mul, Nat.zero_add, List.getElem?_toArray, List.getElem?_append_left (List.getElem?_eq_some_iff.1 hu).1]
   exact hu
theorem ACall.lend {P : Program} {E : World} {f : FuncId} {ars ars' : List AV} {x : AV} {i m k : Nat} {T : TypeId} {rows : List (List AV)} (hk : ∀ r ∈ rows, r.length = k) (hk0 : 0 < k) (hm : rows.length = m)
  (has : ∀ I J : G, I.le J → (∀ v, RepV I (.own i m) v → RepV J (.fro k rows) v) → ∀ vs, RepL I ars vs → RepL J ars' vs) (hx : ∀ (I J : G) v, RepV J x v → RepV I x v)
  (h : AFun P E f ars' x) : ACall P E f ars [(i, .grow k T rows.flatten)] fun y O => y = x ∧ O = [(i, .grow k T rows.flatten)] := fun I F w vs h1 h2 => by
 obtain ⟨J, L, hle, hL, hS, hf, hJ, hv⟩ := knowL hk hk0 hm h2
 refine (h J F w vs (has I J hle hv vs h1) hJ).mono fun v w' ⟨J2, y, O', a, b, c, d⟩ => ?_
 have d : y = x := d
 subst d
 obtain ⟨_, L', _, hS'⟩ := c
 refine ⟨I, y, _, .refl _, hx I J2 v b, ⟨h2.1, L, hL, ?_⟩, rfl, rfl⟩
 refine ⟨hS'.os, hS'.output, hS'.tape, fun b o hb => hS'.pers b o (a.k b o (hle.k b o hb)), fun z hz => ?_, hS.nodup, hS.apart, hS.base, hS.flat, hS.oflat⟩
 rcases List.mem_append.1 hz with hz | hz
 ·exact hS'.pers _ _ (a.k _ _ (hf z hz))
 ·exact hS'.own z (List.mem_append_right _ hz)
theorem lC_flat (l : List Rng) : (l.map encZ).flatten = lC l := by
 unfold lC Enc.av; rw [List.flatMap_def]; rfl
theorem encZ_any {I J : G} {r : Rng} {v : Value} (h : RepV J (.agg (encZ r)) v) : RepV I (.agg (encZ r)) v := by
 obtain ⟨vs, rfl, a, _, rfl, h1, b, _, rfl, h2, h3⟩ := h
 exact ⟨_, rfl, a, _, rfl, h1, b, _, rfl, h2, h3⟩
end Go.Proofs.YtjnpcfpecilejaaGreatDoor
namespace Go.Proofs.YtjnpcfpecilejaaGreatDoor
open Go.Proofs.Tryz
open Go.Proofs Go.Lib Go.Shelf Go.RowKit
variable {E : World}
set_option maxRecDepth 20000
theorem ACall.now {P : Program} {E : World} {f : FuncId} {ars : List AV} {O O0 : OL} {x : AV} (h : ACall P E f ars O fun y O' => y = x ∧ Left O' O0) : ACall P E f ars O fun y O' => y = x ∧ O' = O0 :=
 (ACall.exact (γ := Unit) (x := fun _ => x) (M := fun _ => O0) (p := fun _ => True) (h.mono fun _ _ h => ⟨(), h.1, h.2, trivial⟩)).mono fun _ _ ⟨_, h1, h2, _⟩ => ⟨h1, h2⟩
theorem made_of {f : PFunc} (hF : RuleF f) : MadeF f := by
 rintro ⟨v, p⟩ hq
 obtain ⟨b, hb, hc⟩ := mem_madeL.1 hq
 obtain ⟨i, hi⟩ := List.mem_iff_getElem?.1 hb
 obtain ⟨hPh, hIn, _⟩ := hF.shaped.2.2.2.2.2 b hb
 dsimp only
 rcases hc with ⟨rfl, q, hqb, rfl⟩ | ⟨rfl, h0, x, hx, rfl⟩
 ·obtain ⟨h0, h1⟩ := hasV_rng (hPh q hqb).1
  have hm : ((i : Int), (-1 : Int)) ∈ makings f q.dst := mem_makings.2 ⟨i, b, hi, mem_mkBlk.2 (.inl ⟨q, hqb, rfl, rfl⟩)⟩
  have ho := (hF.once q.dst.toNat (by omega)).1
  rw [Int.toNat_of_nonneg h0] at ho
  rw [maker_eq ho hm]
  exact ⟨h0, h1, by dsimp only; omega, by simp⟩
 ·have h1 : x.dst < f.vars.length := by
   rcases (instP_F (hIn x hx)).dst with ⟨_, h⟩ | ⟨_, _, h⟩
   ·omega
   ·exact (hasV_rng h).2
  obtain ⟨k, hk⟩ := List.mem_iff_getElem?.1 hx
  have hm : ((i : Int), (k : Int)) ∈ makings f x.dst := mem_makings.2 ⟨i, b, hi, mem_mkBlk.2 (.inr ⟨k, x, hk, rfl, rfl⟩)⟩
  have ho := (hF.once x.dst.toNat (by omega)).1
  rw [Int.toNat_of_nonneg h0] at ho
  rw [maker_eq ho hm]
  exact ⟨h0, h1, by dsimp only; omega, by dsimp only; constructor; (intro h; cases h); (intro h; omega)⟩
theorem ruleF_ok {f : PFunc} (hF : RuleF f) (hN : ∀ b ∈ f.blocks, ∀ x ∈ b.insts, is64 x.num) : RuleOk f where
 args := fun b hb x hx v hv => (hasV_rng ((instP_F ((hF.shaped.2.2.2.2.2 b hb).2.1 x hx)).args v hv)).1
 pargs := fun b hb p hp v hv => by
  obtain ⟨_, _, _, hpa, _⟩ := (hF.shaped.2.2.2.2.2 b hb).1 p hp
  exact (hasV_rng (List.all_eq_true.1 hpa v hv)).1
 bool := hF.bool
 two := fun b hb x hx => by
  have := (instP_F ((hF.shaped.2.2.2.2.2 b hb).2.1 x hx)).len
  constructor
  ·intro h; rw [this, h, takes_10]; decide
  ·intro h; rw [this, h, takes_11]; decide
 num := hN
theorem view_lend {I J : G} {i m : Nat} {X : AV} (hle : I.le J) (hv : ∀ v, RepV I (.own i m) v → RepV J X v) (f : PFunc) (chk : List Bool) {v : Value} (h : RepV I (viewV f chk (.own i m)) v) : RepV J (viewV f chk X) v := by
 obtain ⟨b, off, vs, e, ⟨v1, _, rfl, r1, v2, _, rfl, r2, v3, _, rfl, r3, v4, _, rfl, r4, v5, _, rfl, r5, v6, _, rfl, r6, rfl⟩, h2⟩ := h
 exact ⟨b, off, _, e, ⟨v1, _, rfl, r1.mono hle, v2, _, rfl, r2.mono hle, v3, _, rfl, r3.mono hle, v4, _, rfl, r4.mono hle, v5, _, rfl, r5.mono hle, v6, _, rfl, hv _ r6, rfl⟩, fun j u hj => (h2 j u hj).mono hle.k⟩
theorem vnext_fro (f : PFunc) (hF : RuleF f) (l : List Rng) (hl : okL64 f.vars.length l) (v : Nat) (hv : v < f.vars.length) (hm : 0 ≤ (makerT f v).1) (phi : Bool) (how : Int) :
  AFun Tryz.prog E 159 [viewV f (chkL f) (.fro 2 (l.map encZ)), .int .i64 v, .bool phi, .int .i64 how] (.agg (encZ (nextR f l v phi how))) := by
 have hS := hF.shaped
 have hvr := ACall.ofEmpty (vrule_spec (E := E) f hF l (chkL f) (chkL_len f) (.fro 2 (l.map encZ)) (i := 0) (HL := emptyO) (fun ha => of_fro f hS (chkL f) l hl.1 0 emptyO ha) hl.2 v hv hm)
 rw [rule_chk hS hv hm hF.once] at hvr
 have hll := hl.1
 have hty : tyV f v = f.vars[v].ty := by unfold tyV; rw [show ((v : Int).toNat) = v from rfl, List.getElem?_eq_getElem hv]; rfl
 have hlv : l[v]? = some (lv l v) := lv_get (l := l) (a := (v : Int)) (by omega)
 refine zx func159 rfl (by decide) rfl<|za<|z7 rfl<|zz (cs := [.int .i64 0, .int .i64 0]) zeroValue74 rfl rfl<|fun i8 => z6<|za<|yt (γ := Nat × Nat) [0, 1, 2, 3, 8] (fun z => [(9, .po z.1 0), (10, .po z.2 0)]) (fun z => [(z.1, .cells 74 (encZ (lv l v))), (z.2, .cells 74 (encZ (rF f l v))), (i8, .cells 74 [.int .i64 0, .int .i64 0])]) (fun z => True) ?_ (fun _ _ h => h) ?_
 ·refine yg (fun j => false) (by kernel_rfl) rfl (y4 (.rest _))<|ze (i := 0) rfl (by kernel_rfl) (zc (v := .pf _) rfl)<|ze (i := 1) rfl (by kernel_rfl) (q7 rfl)<|ze (i := 2) rfl (by kernel_rfl) (zg underlying125 rfl sizeOf41 (by decide) rfl rfl)<|ze (i := 3) rfl (by kernel_rfl) (zf (c := .fro _ _) isAgg41 rfl)<|ze (i := 4) rfl (by kernel_rfl) (zc (v := .int _ _) rfl)<|ze (i := 5) rfl (by kernel_rfl) (yd (j := v) underlying41 sizeOf74 rfl rfl rfl hlv)<|ze (i := 6) rfl (by kernel_rfl) (zr isAgg74 sizeOf74 rfl rfl)<|ze (i := 7) rfl (by kernel_rfl) (zc (v := .pf _) rfl)<|ze (i := 8) rfl (by kernel_rfl) (zc (v := .int _ _) rfl)<|qn (i := 9) (j := 10) (m := 11) rfl rfl rfl (by kernel_rfl) ?_ ?_ ?_
  ·refine zh (hvr) rfl<|z6<|yu (i := 10) (j := 11) rfl rfl (by kernel_rfl) ?_ ?_
   ·refine zz (cs := [.int .i64 0, .int .i64 0]) zeroValue74 rfl rfl<|fun i9 => z6<|zm (i := 11) rfl (by kernel_rfl)<|zz (cs := [.int .i64 0, .int .i64 0]) zeroValue74 rfl rfl<|fun i10 => z6<|zm (i := 12) rfl (by kernel_rfl)<|zj sizeOf74 rfl rfl rfl rfl rfl rfl (.tail .head) rfl<|z6<|zm (i := 13) rfl (by kernel_rfl)<|zj sizeOf74 rfl rfl rfl rfl rfl rfl .head rfl<|zk (zi (zn (.tail (.tail .head))))<|zk (zi (zn (.tail .head)))<|zk (zi (zn (.tail (.tail .head))))<|z6<|y6 (by kernel_rfl) ?_
    exact ⟨(i9, i10), ⟨rfl, rfl, rfl, rfl, rfl, trivial⟩, ⟨rfl, rfl, trivial⟩, ⟨_, (.refl _), rfl⟩, trivial⟩
   ·refine zz (cs := [.int .i64 0, .int .i64 0]) zeroValue74 rfl rfl<|fun i10 => z6<|zm (i := 10) rfl (by kernel_rfl)<|zz (cs := [.int .i64 0, .int .i64 0]) zeroValue74 rfl rfl<|fun i9 => z6<|zm (i := 12) rfl (by kernel_rfl)<|zj sizeOf74 rfl rfl rfl rfl rfl rfl .head rfl<|z6<|zm (i := 13) rfl (by kernel_rfl)<|zj sizeOf74 rfl rfl rfl rfl rfl rfl (.tail .head) rfl<|z6<|y6 (by kernel_rfl) ?_
    exact ⟨(i9, i10), ⟨rfl, rfl, rfl, rfl, rfl, trivial⟩, ⟨rfl, rfl, trivial⟩, ⟨_, (.refl _), rfl⟩, trivial⟩
  ·refine zz (cs := [.int .i64 0, .int .i64 0]) zeroValue74 rfl rfl<|fun i9 => z6<|yu (i := 9) (j := 11) rfl rfl (by kernel_rfl) ?_ ?_
   ·refine zh (hvr) rfl<|z6<|zm (i := 11) rfl (by kernel_rfl)<|zz (cs := [.int .i64 0, .int .i64 0]) zeroValue74 rfl rfl<|fun i10 => z6<|zm (i := 12) rfl (by kernel_rfl)<|zj sizeOf74 rfl rfl rfl rfl rfl rfl (.tail .head) rfl<|z6<|zm (i := 13) rfl (by kernel_rfl)<|zj sizeOf74 rfl rfl rfl rfl rfl rfl .head rfl<|zk (zi (zn (.tail (.tail .head))))<|zk (zi (zn (.tail .head)))<|zk (zi (zn (.tail (.tail .head))))<|z6<|y6 (by kernel_rfl) ?_
    exact ⟨(i9, i10), ⟨rfl, rfl, rfl, rfl, rfl, trivial⟩, ⟨rfl, rfl, trivial⟩, ⟨_, (.refl _), rfl⟩, trivial⟩
   ·refine zz (cs := [.int .i64 0, .int .i64 0]) zeroValue74 rfl rfl<|fun i10 => z6<|zm (i := 9) rfl (by kernel_rfl)<|zh (hvr) rfl<|z6<|zm (i := 12) rfl (by kernel_rfl)<|zj sizeOf74 rfl rfl rfl rfl rfl rfl (.tail .head) rfl<|z6<|zm (i := 13) rfl (by kernel_rfl)<|zj sizeOf74 rfl rfl rfl rfl rfl rfl .head rfl<|zk (zi (zn (.tail (.tail .head))))<|zk (zi (zn (.tail .head)))<|zk (zi (zn (.tail (.tail .head))))<|z6<|y6 (by kernel_rfl) ?_
    exact ⟨(i9, i10), ⟨rfl, rfl, rfl, rfl, rfl, trivial⟩, ⟨rfl, rfl, trivial⟩, ⟨_, (.refl _), rfl⟩, trivial⟩
  ·refine zz (cs := [.int .i64 0, .int .i64 0]) zeroValue74 rfl rfl<|fun i10 => z6<|yu (i := 9) (j := 10) rfl rfl (by kernel_rfl) ?_ ?_
   ·refine zh (hvr) rfl<|z6<|zm (i := 10) rfl (by kernel_rfl)<|zz (cs := [.int .i64 0, .int .i64 0]) zeroValue74 rfl rfl<|fun i9 => z6<|zm (i := 12) rfl (by kernel_rfl)<|zj sizeOf74 rfl rfl rfl rfl rfl rfl .head rfl<|z6<|zm (i := 13) rfl (by kernel_rfl)<|zj sizeOf74 rfl rfl rfl rfl rfl rfl (.tail .head) rfl<|z6<|y6 (by kernel_rfl) ?_
    exact ⟨(i9, i10), ⟨rfl, rfl, rfl, rfl, rfl, trivial⟩, ⟨rfl, rfl, trivial⟩, ⟨_, (.refl _), rfl⟩, trivial⟩
   ·refine zz (cs := [.int .i64 0, .int .i64 0]) zeroValue74 rfl rfl<|fun i9 => z6<|zm (i := 9) rfl (by kernel_rfl)<|zh (hvr) rfl<|z6<|zm (i := 12) rfl (by kernel_rfl)<|zj sizeOf74 rfl rfl rfl rfl rfl rfl .head rfl<|z6<|zm (i := 13) rfl (by kernel_rfl)<|zj sizeOf74 rfl rfl rfl rfl rfl rfl (.tail .head) rfl<|z6<|y6 (by kernel_rfl) ?_
    exact ⟨(i9, i10), ⟨rfl, rfl, rfl, rfl, rfl, trivial⟩, ⟨rfl, rfl, trivial⟩, ⟨_, (.refl _), rfl⟩, trivial⟩
 ·rintro ⟨i9, i10⟩ _
  refine za<|zq<|za<|z7 rfl<|z2 (zc (v := .int _ _) rfl)<|z2 (yi rfl rfl)<|z2 (zd (v := .bool _) rfl)<|z6<|zy rfl (fun c2 => ?_) (fun c2 => ?_)
  ·refine za<|z7 rfl<|z2 (qf isAgg74 sizeOf74 rfl ⟨_, .head⟩ rfl)<|z2 (qf isAgg74 sizeOf74 rfl ⟨_, (.tail .head)⟩ rfl)<|zh (iMeet _ _) rfl<|zj sizeOf74 rfl rfl rfl rfl rfl rfl (.tail (.tail .head)) rfl<|z6<|zo<|yq rfl ⟨_, (.tail (.tail .head))⟩ isAgg74 sizeOf74 rfl ?_
   rw [nextR, if_pos c2]; rfl
  ·refine za<|yt (γ := Bool) [0, 1, 8, 9, 10] (fun u => [(27, .bool u)]) (fun u => [(i9, .cells 74 (encZ (lv l v))), (i10, .cells 74 (encZ (rF f l v))), (i8, .cells 74 [.int .i64 0, .int .i64 0])]) (fun u => u = decide (how = 1 ∧ phi = true)) ?_ (fun _ _ h => h) ?_
   ·refine z7 rfl<|z2 (zc (v := .int _ _) rfl)<|z2 (yi rfl rfl)<|z2 (zc (v := .bool _) rfl)<|y3 (s := 30) rfl (fun c1 => ?_) (fun c1 => ?_)
    ·refine zb rfl rfl c1<|z2 (zc (v := .bool _) rfl)<|z2 (zu (v := .bool _) rfl c1 rfl)<|z2 (zd (v := .bool _) rfl)<|z6 ?_
     exact ⟨_, ⟨rfl, rfl, rfl, rfl, rfl, trivial⟩, ⟨rfl, trivial⟩, ⟨_, (.refl _), rfl⟩, by simp_all⟩
    ·refine z8 rfl rfl c1<|z2 (zt (v := .bool _) rfl c1 rfl)<|z2 (zd (v := .bool _) rfl)<|z6 ?_
     exact ⟨_, ⟨rfl, rfl, rfl, rfl, rfl, trivial⟩, ⟨rfl, trivial⟩, ⟨_, (.refl _), rfl⟩, by simp_all⟩
   ·rintro u hu
    subst hu
    refine zy rfl (fun c1 => ?_) (fun c1 => ?_)
    ·refine za<|yg (fun j => Nat.beq j 12) (by kernel_rfl) rfl (y4 (.r (.r (.rest _))))<|ze (i := 0) rfl (by kernel_rfl) (zc (v := .pf _) rfl)<|ze (i := 1) rfl (by kernel_rfl) (q7 rfl)<|ze (i := 2) rfl (by kernel_rfl) (zg underlying125 rfl sizeOf26 (by decide) rfl rfl)<|ze (i := 3) rfl (by kernel_rfl) (zg underlying26 rfl sizeOf22 (by decide) rfl rfl)<|ze (i := 4) rfl (by kernel_rfl) (zf (c := .fro _ _) isAgg22 rfl)<|ze (i := 5) rfl (by kernel_rfl) (zc (v := .int _ _) rfl)<|ze (i := 6) rfl (by kernel_rfl) (yd (j := v) underlying22 sizeOf56 rfl rfl rfl (List.getElem?_eq_getElem hv)) ?_
     refine ze (i := 7) rfl (by kernel_rfl) (zg underlying56 rfl sizeOf54 (by decide) rfl rfl)<|ze (i := 8) rfl (by kernel_rfl) (zf (c := .int _ _) isAgg54 rfl)<|ze (i := 9) rfl (by kernel_rfl) (qf isAgg74 sizeOf74 rfl ⟨_, .head⟩ rfl)<|ze (i := 10) rfl (by kernel_rfl) (qf isAgg74 sizeOf74 rfl ⟨_, (.tail .head)⟩ rfl)<|zm (i := 11) rfl (by kernel_rfl)<|zh (iWiden f.vars[v].ty (lv l v) (rF f l v)) rfl<|z6<|q6<|qd (i := 12) rfl (by kernel_rfl) (by kernel_rfl)<|zj sizeOf74 rfl rfl rfl rfl rfl rfl (.tail (.tail .head)) rfl<|z6<|q8 (by kernel_rfl)<|zo<|yq rfl ⟨_, (.tail (.tail .head))⟩ isAgg74 sizeOf74 rfl ?_
     rw [nextR, if_neg c2, if_pos c1, hty]; rfl
    ·refine zp<|za<|z7 rfl<|z2 (qf isAgg74 sizeOf74 rfl ⟨_, .head⟩ rfl)<|z2 (qf isAgg74 sizeOf74 rfl ⟨_, (.tail .head)⟩ rfl)<|zh (iJoin _ _) rfl<|zj sizeOf74 rfl rfl rfl rfl rfl rfl (.tail (.tail .head)) rfl<|z6<|zo<|yq rfl ⟨_, (.tail (.tail .head))⟩ isAgg74 sizeOf74 rfl ?_
     rw [nextR, if_neg c2, if_neg c1]; rfl
theorem vnext_spec (f : PFunc) (hF : RuleF f) (l : List Rng) (hl : okL64 f.vars.length l) (i : Nat) (T : TypeId) (v : Nat) (hv : v < f.vars.length) (hm : 0 ≤ (makerT f v).1) (phi : Bool) (how : Int) :
  ACall Tryz.prog E 159 [viewV f (chkL f) (.own i f.vars.length), .int .i64 v, .bool phi, .int .i64 how] [(i, .grow 2 T (lC l))] (sameO i (.grow 2 T (lC l)) (.agg (encZ (nextR f l v phi how)))) := by
 rw [← lC_flat]
 refine ACall.lend (m := f.vars.length) (fun r hr => by obtain ⟨z, _, rfl⟩ := List.mem_map.1 hr; rfl) (by decide) (by rw [List.length_map]; exact hl.1) (fun I J hle hv vs h => ?_) (fun I J v h => encZ_any h) (vnext_fro f hF l hl v hv hm phi how)
 obtain ⟨v1, us, rfl, r1, r2⟩ := h
 exact ⟨v1, us, rfl, view_lend hle hv f (chkL f) r1, r2.mono hle⟩
theorem vput_spec (f : PFunc) (hF : RuleF f) (l : List Rng) (hl : okL64 f.vars.length l) (i : Nat) (T : TypeId) (v : Nat) (hv : v < f.vars.length) (hm : 0 ≤ (makerT f v).1) (phi : Bool) (how : Int) :
  ACall Tryz.prog E 113 [viewV f (chkL f) (.own i f.vars.length), .int .i64 v, .bool phi, .int .i64 how] [(i, .grow 2 T (lC l))]
   (sameO i (.grow 2 T (lC (l.set v (nextR f l v phi how)))) (.bool (!decide (nextR f l v phi how = lv l v)))) := by
 obtain ⟨r, hr⟩ : ∃ r, nextR f l v phi how = r := ⟨_, rfl⟩
 have hnx := vnext_spec (E := E) f hF l hl i T v hv hm phi how
 rw [hr] at hnx ⊢
 have hll := hl.1
 have hlv : l[v]? = some (lv l v) := lv_get (l := l) (a := (v : Int)) (by omega)
 refine ACall.now<|zx func113 rfl (by decide) rfl<|za<|z7 rfl<|z2 (zd (v := .bool _) rfl)<|z6<|za<|z7 rfl<|z2 (zc (v := .pf _) rfl)<|z2 (zc (v := .int _ _) rfl)<|z2 (zc (v := .bool _) rfl)<|z2 (zc (v := .int _ _) rfl)<|yc rfl (y4 (.l (.rest _))) (hnx) ?_
 rintro r15 O15 ⟨rfl, rfl⟩
 refine zz (cs := [.int .i64 0, .int .i64 0]) zeroValue74 rfl rfl<|fun i9 => zj sizeOf74 rfl rfl rfl rfl rfl rfl .head rfl<|z6<|za<|yg (fun j => false) (by kernel_rfl) rfl (y4 (.r (.r (.rest _))))<|ze (i := 0) rfl (by kernel_rfl) (qf isAgg74 sizeOf74 rfl ⟨_, .head⟩ rfl)<|ze (i := 1) rfl (by kernel_rfl) (zc (v := .pf _) rfl)<|ze (i := 2) rfl (by kernel_rfl) (q7 rfl)<|ze (i := 3) rfl (by kernel_rfl) (zg underlying125 rfl sizeOf41 (by decide) rfl rfl)<|ze (i := 4) rfl (by kernel_rfl) (zf (c := .own _ _) isAgg41 rfl)<|ze (i := 5) rfl (by kernel_rfl) (zc (v := .int _ _) rfl)<|ze (i := 6) rfl (by kernel_rfl) (Gv.idxR (j := v) underlying41 sizeOf74 rfl rfl rfl ⟨_, (.tail .head)⟩ hll hv)<|ze (i := 7) rfl (by kernel_rfl) (Gv.loadR (j := v) isAgg74 sizeOf74 rfl ⟨_, (.tail .head)⟩ hlv)<|ze (i := 8) rfl (by kernel_rfl) (Gv.eqlP (xs := [.int _ _, .int _ _]) (ys := [.int _ _, .int _ _]) (by kernel_rfl) rfl rfl (fun w => eq_range _ _ _ _ w))<|ze (i := 9) rfl (by kernel_rfl) (zd (v := .bool _) rfl)<|y6 (by kernel_rfl)<|za<|yg (fun j => Nat.beq j 7) (by kernel_rfl) rfl (y4 (.r (.r (.rest _))))<|ze (i := 0) rfl (by kernel_rfl) (zc (v := .pf _) rfl)<|ze (i := 1) rfl (by kernel_rfl) (q7 rfl)<|ze (i := 2) rfl (by kernel_rfl) (zg underlying125 rfl sizeOf41 (by decide) rfl rfl)<|ze (i := 3) rfl (by kernel_rfl) (zf (c := .own _ _) isAgg41 rfl)<|ze (i := 4) rfl (by kernel_rfl) (zc (v := .int _ _) rfl)<|ze (i := 5) rfl (by kernel_rfl) (qf isAgg74 sizeOf74 rfl ⟨_, .head⟩ rfl)<|ze (i := 6) rfl (by kernel_rfl) (Gv.idxR (j := v) underlying41 sizeOf74 rfl rfl rfl ⟨_, (.tail .head)⟩ hll hv)<|q6<|qd (i := 7) rfl (by kernel_rfl) (by kernel_rfl)<|AOps.storeR (j := v) sizeOf74 rfl rfl (.tail .head) (by rw [hll]; exact hv)<|z6<|q8 (by kernel_rfl)<|za<|z7 rfl<|z2 (zc (v := .bool _) rfl)<|z2 (yx rfl)<|z2 (zd (v := .bool _) rfl)<|z6<|zo<|zw (x := .bool _) rfl ?_
 exact ⟨by rw [rng_eq], .d1⟩
end Go.Proofs.YtjnpcfpecilejaaGreatDoor
namespace Go.Proofs.YtjnpcfpecilejaaGreatDoor
open Go.Proofs.Tryz
open Go.Proofs Go.Lib Go.Shelf Go.RowKit
theorem ps41_1 : PlacesS Tryz.prog 41 74 1 2 [.int .i64 0, .int .i64 0] := ⟨_, underlying41, sizeOf74, zeroValue74, by decide, by decide, by kernel_rfl⟩
variable {E : World}
set_option maxRecDepth 20000
theorem vputQ_spec (f : PFunc) (hF : RuleF f) (s : List Rng × Bool) (hl : okL64 f.vars.length s.1) (i : Nat) (T : TypeId) (q : Int × Bool) (hq : q ∈ madeL f) (how : Int) :
  ACall Tryz.prog E 113 [viewV f (chkL f) (.own i f.vars.length), .int .i64 q.1, .bool q.2, .int .i64 how] [(i, .grow 2 T (lC s.1))]
   (sameO i (.grow 2 T (lC (putS f how s q).1)) (.bool (!decide (nextR f s.1 q.1 q.2 how = lv s.1 q.1)))) := by
 obtain ⟨h0, h1, h2, _⟩ := made_of hF q hq
 have hvv : ((q.1.toNat : Nat) : Int) = q.1 := Int.toNat_of_nonneg h0
 have := vput_spec (E := E) f hF s.1 hl i T q.1.toNat (by omega) (by rw [hvv]; exact h2) q.2 how
 rw [hvv] at this
 exact this
theorem made_phi {f : PFunc} {b : PBlock} (hb : b ∈ f.blocks) {p : PPhi} (hp : p ∈ b.phis) : (p.dst, true) ∈ madeL f := mem_madeL.2 ⟨b, hb, .inl ⟨rfl, p, hp, rfl⟩⟩
theorem made_inst {f : PFunc} {b : PBlock} (hb : b ∈ f.blocks) {x : PInst} (hx : x ∈ b.insts) (h0 : 0 ≤ x.dst) : (x.dst, false) ∈ madeL f := mem_madeL.2 ⟨b, hb, .inr ⟨rfl, h0, x, hx, rfl⟩⟩
theorem put_ok {f : PFunc} (hR : Rules f.vars.length (rF f) (madeV f)) (how : Int) {s : List Rng × Bool} (h : okL64 f.vars.length s.1) {q : Int × Bool} (hq : q ∈ madeL f) : okL64 f.vars.length (putS f how s q).1 :=
 rnd_ok hR how [q] s (fun x hx => by rw [List.mem_singleton.1 hx]; exact hq) h
set_option maxHeartbeats 4000000 in
theorem vround_spec (f : PFunc) (hF : RuleF f) (hR : Rules f.vars.length (rF f) (madeV f)) (l0 : List Rng) (hl0 : okL64 f.vars.length l0) (i : Nat) (T : TypeId) (how : Int) :
  ACall Tryz.prog E 69 [viewV f (chkL f) (.own i f.vars.length), .int .i64 how] [(i, .grow 2 T (lC l0))]
   (sameO i (.grow 2 T (lC (rndS f how (madeL f) (l0, false)).1)) (.bool (rndS f how (madeL f) (l0, false)).2)) := by
 have hf := hF.small
 have hn := hf.2.2.1
 obtain ⟨z, hz⟩ : ∃ z, rndS f how (madeL f) (l0, false) = z := ⟨_, rfl⟩
 rw [hz]
 refine ACall.now<|zx func69 rfl (by decide) rfl<|za<|z7 rfl<|z2 (zd (v := .bool _) rfl)<|z6<|za<|z7 rfl<|z2 (zd (v := .bool _) rfl)<|z6<|za<|za<|z7 rfl<|z2 (zc (v := .pf _) rfl)<|z2 (q7 rfl)<|z2 (zg underlying125 rfl sizeOf26 (by decide) rfl rfl)<|z2 (zg underlying26 rfl sizeOf24 (by decide) rfl rfl)<|z2 (zf (c := .fro _ _) isAgg24 rfl)<|z2 (yb underlying24 rfl)<|z2 (zc (v := .int _ _) rfl)<|z6<|zq<|yj (γ := Nat × List Rng × Bool) [0, 1, 16, 17] (fun g => [(18, .int .i64 g.1), (5, .bool g.2.2)]) (fun g => [(i, .grow 2 T (lC g.2.1))]) (fun g => g.1 ≤ f.blocks.length ∧ g.2 = rndS f how (madeTo f g.1) (l0, false) ∧ okL64 f.vars.length g.2.1) (fun g => f.blocks.length - g.1) (0, l0, false) ⟨rfl, rfl, trivial⟩ ⟨_, (.refl _), rfl⟩ (⟨Nat.zero_le _, rfl, hl0⟩) ?_
 rintro ⟨k, l, c⟩ ⟨hk, hs, hl⟩
 try dsimp only at *
 refine za<|z7 rfl<|z2 (yn rfl rfl)<|z6<|za<|zy rfl (fun ck => ?_) (fun ck => ?_)
 ·have hk2 : k < f.blocks.length := by simp at ck; omega
  obtain ⟨b, hbk⟩ : ∃ b, f.blocks[k] = b := ⟨_, rfl⟩
  have hget : f.blocks[k]? = some b := by rw [List.getElem?_eq_getElem hk2, hbk]
  have hmem : b ∈ f.blocks := hbk ▸ List.getElem_mem hk2
  obtain ⟨hb0, hb1, hb2, hb3, hb4⟩ := hf.2.2.2.2 b hmem
  refine zp<|za<|zq<|za<|z7 rfl<|z2 (yd (j := k) underlying24 sizeOf66 rfl rfl rfl hget)<|z2 (zr isAgg66 sizeOf66 rfl rfl)<|zz (cs := [.str ⟨#[]⟩, .raw (.slice none 0 0), .raw (.slice none 0 0), .int .i64 0, .int .i64 0, .int .i64 0, .int .i64 0]) zeroValue66 rfl rfl<|fun i7 => zj sizeOf66 rfl rfl rfl rfl rfl rfl .head rfl<|zk (yo (t := 7) rfl .head)<|z6<|za<|za<|z7 rfl<|z2 (zg underlying66 rfl sizeOf59 (by decide) rfl rfl)<|z2 (zf (c := .fro _ _) isAgg59 rfl)<|z2 (yb underlying59 rfl)<|z2 (zc (v := .int _ _) rfl)<|z6<|zq<|yj (γ := Nat × List Rng × Bool) [0, 1, 7, 16, 17, 18, 23, 24] (fun g => [(25, .int .i64 g.1), (5, .bool g.2.2)]) (fun g => [(i, .grow 2 T (lC g.2.1))]) (fun g => g.1 ≤ b.phis.length ∧ g.2 = rndS f how (madeTo f k ++ (b.phis.take g.1).map fun p => ((p.dst, true) : Int × Bool)) (l0, false) ∧ okL64 f.vars.length g.2.1) (fun g => b.phis.length - g.1) (0, l, c) ⟨rfl, rfl, trivial⟩ ⟨_, (.refl _), rfl⟩ (⟨Nat.zero_le _, by rw [List.take_zero, List.map_nil, List.append_nil]; exact hs, hl⟩) ?_
  rintro ⟨j, l, c⟩ ⟨hj, hs, hl⟩
  try dsimp only at *
  refine za<|z7 rfl<|z2 (yn rfl rfl)<|z6<|za<|zy rfl (fun cj => ?_) (fun cj => ?_)
  ·have hj2 : j < b.phis.length := by simp at cj; omega
   obtain ⟨p, hp⟩ : ∃ p, b.phis[j] = p := ⟨_, rfl⟩
   have hq := made_phi hmem (hp ▸ List.getElem_mem hj2)
   refine zp<|za<|zq<|za<|z7 rfl<|z2 (yd (j := j) underlying59 sizeOf95 rfl rfl rfl (by rw [List.getElem?_eq_getElem hj2, hp])) ?_
   refine z2 (zr isAgg95 sizeOf95 rfl rfl)<|zz (cs := [.int .i64 0, .raw (.slice none 0 0), .raw (.slice none 0 0)]) zeroValue95 rfl rfl<|fun i9 => zj sizeOf95 rfl rfl rfl rfl rfl rfl .head rfl<|zk (yo (t := 9) rfl .head)<|z6<|yt (γ := Bool) [0, 1, 7, 16, 17, 18, 23, 24, 25] (fun u => [(5, .bool u)]) (fun u => [(i, .grow 2 T (lC (putS f how (l, c) (p.dst, true)).1))]) (fun u => u = (putS f how (l, c) (p.dst, true)).2) ?_ (fun _ _ h => h) ?_
   ·refine z7 rfl<|z2 (zc (v := .pf _) rfl)<|z2 (zg underlying95 rfl sizeOf3 (by decide) rfl rfl)<|z2 (zf (c := .int _ _) isAgg3 rfl)<|z2 (zc (v := .int _ _) rfl)<|yc rfl (y4 (.l (.rest _))) (vputQ_spec f hF (l, c) hl i T (p.dst, true) hq how) ?_
    rintro r33 O33 ⟨rfl, rfl⟩
    refine z2 (zc (v := .bool _) rfl)<|y3 (s := 34) rfl (fun c1 => ?_) (fun c1 => ?_)
    ·refine z8 rfl rfl c1<|z2 (zu (v := .bool _) rfl c1 rfl)<|z2 (zd (v := .bool _) rfl)<|z6 ?_
     exact ⟨_, ⟨rfl, rfl, rfl, rfl, rfl, rfl, rfl, rfl, rfl, trivial⟩, ⟨rfl, trivial⟩, ⟨_, (.refl _), rfl⟩, by unfold putS; simp_all⟩
    ·refine zb rfl rfl c1<|z2 (zc (v := .bool _) rfl)<|z2 (zt (v := .bool _) rfl c1 rfl)<|z2 (zd (v := .bool _) rfl)<|z6 ?_
     exact ⟨_, ⟨rfl, rfl, rfl, rfl, rfl, rfl, rfl, rfl, rfl, trivial⟩, ⟨rfl, trivial⟩, ⟨_, (.refl _), rfl⟩, by unfold putS; simp_all⟩
   ·rintro u hu
    subst hu
    refine z7 rfl<|z2 (yl rfl rfl (by unfold I64; omega))<|z2 (zc (v := .int _ _) rfl)<|z6 ?_
    exact ⟨(j + 1, putS f how (l, c) (p.dst, true)), ⟨rfl, rfl, rfl, rfl, rfl, rfl, rfl, rfl, trivial⟩, ⟨rfl, rfl, trivial⟩, ⟨_, (.refl _), rfl⟩, ⟨hj2, by rw [madePh_succ hj2, ← List.append_assoc, rndS_snoc, ← hs, hp], put_ok hR how hl hq⟩, by dsimp only; omega⟩
  ·have hjn : j = b.phis.length := by simp at cj; omega
   subst hjn
   rw [List.take_length] at hs
   refine yf<|za<|z7 rfl<|z2 (zg underlying66 rfl sizeOf60 (by decide) rfl rfl)<|z2 (zf (c := .fro _ _) isAgg60 rfl)<|z2 (yb underlying60 rfl)<|z2 (zc (v := .int _ _) rfl)<|z6<|zq<|yj (γ := Nat × List Rng × Bool) [0, 1, 16, 17, 18, 39, 40] (fun g => [(41, .int .i64 g.1), (5, .bool g.2.2)]) (fun g => [(i, .grow 2 T (lC g.2.1))]) (fun g => g.1 ≤ b.insts.length ∧ g.2 = rndS f how (madeTo f k ++ (madePh b ++ madeIn (b.insts.take g.1))) (l0, false) ∧ okL64 f.vars.length g.2.1) (fun g => b.insts.length - g.1) (0, l, c) ⟨rfl, rfl, trivial⟩ ⟨_, (.refl _), rfl⟩ (⟨Nat.zero_le _, by rw [List.take_zero, show madeIn [] = [] from rfl, List.append_nil]; exact hs, hl⟩) ?_
   rintro ⟨m, l, c⟩ ⟨hm, hs, hl⟩
   try dsimp only at *
   refine za<|z7 rfl<|z2 (yn rfl rfl)<|z6<|za<|zy rfl (fun cm => ?_) (fun cm => ?_)
   ·have hm2 : m < b.insts.length := by simp at cm; omega
    obtain ⟨x, hx⟩ : ∃ x, b.insts[m] = x := ⟨_, rfl⟩
    have hsn := madeIn_succ hm2
    rw [hx] at hsn
    refine zp<|za<|zq<|za<|z7 rfl<|z2 (yd (j := m) underlying60 sizeOf33 rfl rfl rfl (by rw [List.getElem?_eq_getElem hm2, hx])) ?_
    refine z2 (zr isAgg33 sizeOf33 rfl rfl)<|zz (cs := [.int .i64 0, .int .i64 0, .raw (.slice none 0 0), .int .i64 0]) zeroValue33 rfl rfl<|fun i11 => zj sizeOf33 rfl rfl rfl rfl rfl rfl .head rfl<|zk (yo (t := 11) rfl .head)<|z6<|za<|z7 rfl<|z2 (zg underlying33 rfl sizeOf3 (by decide) rfl rfl)<|z2 (zf (c := .int _ _) isAgg3 rfl)<|z2 (qi rfl rfl)<|z6<|zy rfl (fun cd => ?_) (fun cd => ?_)
    ·have hq := made_inst hmem (hx ▸ List.getElem_mem hm2) cd
     rw [if_pos cd] at hsn
     refine yt (γ := Bool) [0, 1, 16, 17, 18, 39, 40, 41] (fun u => [(5, .bool u)]) (fun u => [(i, .grow 2 T (lC (putS f how (l, c) (x.dst, false)).1))]) (fun u => u = (putS f how (l, c) (x.dst, false)).2) ?_ (fun _ _ h => h) ?_
     ·refine z7 rfl<|z2 (zc (v := .pf _) rfl)<|z2 (zg underlying33 rfl sizeOf3 (by decide) rfl rfl)<|z2 (zf (c := .int _ _) isAgg3 rfl)<|z2 (zc (v := .int _ _) rfl)<|yc rfl (y4 (.l (.rest _))) (vputQ_spec f hF (l, c) hl i T (x.dst, false) hq how) ?_
      rintro r52 O52 ⟨rfl, rfl⟩
      refine z2 (zc (v := .bool _) rfl)<|y3 (s := 53) rfl (fun c2 => ?_) (fun c2 => ?_)
      ·refine z8 rfl rfl c2<|z2 (zu (v := .bool _) rfl c2 rfl)<|z2 (zd (v := .bool _) rfl)<|z6 ?_
       exact ⟨_, ⟨rfl, rfl, rfl, rfl, rfl, rfl, rfl, rfl, trivial⟩, ⟨rfl, trivial⟩, ⟨_, (.refl _), rfl⟩, by unfold putS; simp_all⟩
      ·refine zb rfl rfl c2<|z2 (zc (v := .bool _) rfl)<|z2 (zt (v := .bool _) rfl c2 rfl)<|z2 (zd (v := .bool _) rfl)<|z6 ?_
       exact ⟨_, ⟨rfl, rfl, rfl, rfl, rfl, rfl, rfl, rfl, trivial⟩, ⟨rfl, trivial⟩, ⟨_, (.refl _), rfl⟩, by unfold putS; simp_all⟩
     ·rintro u hu
      subst hu
      refine z7 rfl<|z2 (yl rfl rfl (by unfold I64; omega))<|z2 (zc (v := .int _ _) rfl)<|z6 ?_
      exact ⟨(m + 1, putS f how (l, c) (x.dst, false)), ⟨rfl, rfl, rfl, rfl, rfl, rfl, rfl, trivial⟩, ⟨rfl, rfl, trivial⟩, ⟨_, (.refl _), rfl⟩, ⟨hm2, by rw [hsn, ← List.append_assoc (madePh b), ← List.append_assoc, rndS_snoc, ← hs], put_ok hR how hl hq⟩, by dsimp only; omega⟩
    ·rw [if_neg cd, List.append_nil] at hsn
     refine zp<|z7 rfl<|z2 (yl rfl rfl (by unfold I64; omega))<|z2 (zc (v := .int _ _) rfl)<|z6 ?_
     exact ⟨(m + 1, l, c), ⟨rfl, rfl, rfl, rfl, rfl, rfl, rfl, trivial⟩, ⟨rfl, rfl, trivial⟩, ⟨_, (.refl _), rfl⟩, ⟨hm2, by rw [hsn]; exact hs, hl⟩, by dsimp only; omega⟩
   ·have hmn : m = b.insts.length := by simp at cm; omega
    subst hmn
    rw [List.take_length] at hs
    refine yf<|z7 rfl<|z2 (yl rfl rfl (by unfold I64; omega))<|z2 (zc (v := .int _ _) rfl)<|z6 ?_
    exact ⟨(k + 1, l, c), ⟨rfl, rfl, rfl, rfl, trivial⟩, ⟨rfl, rfl, trivial⟩, ⟨_, (.refl _), rfl⟩, ⟨hk2, by rw [madeTo_succ hk2, hbk]; exact hs, hl⟩, by dsimp only; omega⟩
 ·have hkn : k = f.blocks.length := by simp at ck; omega
  subst hkn
  rw [madeTo_all, hz] at hs
  subst hs
  refine yf<|za<|z7 rfl<|z2 (zc (v := .bool _) rfl)<|z2 (zd (v := .bool _) rfl)<|z6<|zo<|zw (x := .bool _) rfl ?_
  exact ⟨rfl, _, .refl _, rfl⟩
def narV (f : PFunc) (l : List Rng) : List Rng := (madeV f).foldl (narrow (rF f)) l
def narN (f : PFunc) (l : List Rng) : Nat → List Rng
 | 0 => l
 | m + 1 => narV f (narN f l m)
theorem narN_ok {f : PFunc} (hR : Rules f.vars.length (rF f) (madeV f)) {l : List Rng} (hl : okL64 f.vars.length l) : ∀ m, okL64 f.vars.length (narN f l m)
 | 0 => hl
 | m + 1 => by
  have := rnd_meet hR (madeL f) (narN f l m) false (fun _ h => h) (narN_ok hR hl m)
  rw [this.2] at this
  exact this.1
theorem vround_grow (f : PFunc) (hF : RuleF f) (hR : Rules f.vars.length (rF f) (madeV f)) (k : Nat) (i : Nat) (T : TypeId) :
  ACall Tryz.prog E 69 [viewV f (chkL f) (.own i f.vars.length), .int .i64 (if 3 ≤ k then 1 else 0)] [(i, .grow 2 T (lC (rndF f k)))] (sameO i (.grow 2 T (lC (rndF f (k + 1)))) (.bool (!decide (rndF f (k + 1) = rndF f k)))) := by
 have hg := rndF_g hR k
 have h := vround_spec (E := E) f hF hR (rndF f k) hg.ok i T (if 3 ≤ k then 1 else 0)
 obtain ⟨_, h2, h3⟩ := rnd_grow hR (made_of hF) (how := if 3 ≤ k then 1 else 0) (n := k + 1) (by unfold hows; by_cases c : 3 ≤ k; rw [if_pos c, if_pos (by omega)]; rw [if_neg c, if_neg (by omega)]) (madeL f) (rndF f k) false (fun _ h => h) hg
 have e : growA (rF f) (widF f (k + 1)) ((madeL f).map (·.1)) (rndF f k) = rndF f (k + 1) := rfl
 rw [e] at h2 h3
 rw [h2] at h
 rw [show (rndS f (if 3 ≤ k then 1 else 0) (madeL f) (rndF f k, false)).2 = !decide (rndF f (k + 1) = rndF f k) by rw [Bool.eq_iff_iff, h3]; simp] at h
 exact h
theorem vround_meet (f : PFunc) (hF : RuleF f) (hR : Rules f.vars.length (rF f) (madeV f)) (l : List Rng) (hl : okL64 f.vars.length l) (i : Nat) (T : TypeId) :
  ACall Tryz.prog E 69 [viewV f (chkL f) (.own i f.vars.length), .int .i64 2] [(i, .grow 2 T (lC l))] (fun y O => ∃ c : Bool, y = .bool c ∧ O = [(i, .grow 2 T (lC (narV f l)))] ∧ True) := by
 have h := vround_spec (E := E) f hF hR l hl i T 2
 have h2 := (rnd_meet hR (madeL f) l false (fun _ h => h) hl).2
 rw [h2] at h
 exact h.mono fun y O ⟨a, b⟩ => ⟨_, a, b, trivial⟩
set_option maxHeartbeats 4000000 in
theorem vOf_ok (f : PFunc) (hf : small f) (hL : Letters E) (hs : (typedB f && singB f) = true) (hR : Rules f.vars.length (rF f) (madeV f)) (K : Nat) (hK : Stops f K) :
  AFun Tryz.prog E 33 [.agg (encF f)] (.tup [.fro 2 ((endF f K).map encZ), .int .i64 0]) := by
 have hvn := hf.1
 have hF := ruleF_of hf hs
 have hty := (and3 hs).1
 have hlk := look_ok (E := E) f hf hL hs
 have hend : okL64 f.vars.length (endF f K) := (endF_post hR hK).1
 refine zx func33 rfl (by decide) rfl<|za<|z7 rfl<|yk (cs := _) rfl rfl rfl<|z2 (zd (v := .raw _) rfl)<|z2 (zd (v := .int _ _) rfl)<|z6<|za<|z7 rfl<|z2 (zr isAgg26 sizeOf26 rfl rfl)<|yc rfl (y4 (.rest _)) (hlk) ?_
 rintro r11 O11 ⟨iv, rfl, rfl⟩
 refine z2 (zc (v := .tup _) rfl)<|z2 (yp (v := .po _ _) rfl rfl)<|z2 (yp (v := .int _ _) rfl rfl)<|z2 (zd (v := .po _ _) rfl)<|z2 (zd (v := .int _ _) rfl)<|z6<|za<|za<|z7 rfl<|z2 (zc (v := .int _ _) rfl)<|z2 (yz rfl rfl)<|z6<|q0 rfl rfl<|zp<|za<|za<|z7 rfl<|z2 (zg underlying26 rfl sizeOf22 (by decide) rfl rfl)<|z2 (zf (c := .fro _ _) isAgg22 rfl)<|z2 (yb underlying22 rfl)<|z2 (zc (v := .int _ _) rfl)<|z6<|adoptC_wp (off := 5) (k := 2) (T := 74) (fun _ => .head) rfl<|fun jl => zq<|yj (γ := Nat × Nat) [1, 4, 19] (fun g => [(20, .int .i64 g.1)]) (fun g => [(g.2, .grow 2 74 (lC ((firstL f).take g.1))), (iv, .cells 125 (viewL f (chkL f) (.own g.2 g.1)))]) (fun g => g.1 ≤ f.vars.length) (fun g => f.vars.length - g.1) (0, jl) ⟨rfl, trivial⟩ ⟨_, (.refl _), rfl⟩ (Nat.zero_le _) ?_
 rintro ⟨k, jl⟩ hk
 try dsimp only at *
 refine za<|z7 rfl<|z2 (yn rfl rfl)<|z6<|za<|zy rfl (fun ck => ?_) (fun ck => ?_)
 ·have hk2 : k < f.vars.length := by simp at ck; omega
  have hfl : ((firstL f).take k).length = k := by rw [List.length_take, firstL_len]; omega
  have hft := firstL_take hk2
  have hvf := vFirst_spec (E := E) f hf hL (k : Int)
  have hfp : firstP f (k : Int) = firstR f (k : Int) := by unfold firstP; rw [if_pos ⟨hty, by omega, by omega⟩]
  rw [hfp] at hvf
  refine zp<|za<|zq<|za<|z7 rfl<|z2 (zc (v := .int _ _) rfl)<|z2 (zd (v := .int _ _) rfl)<|z6<|za<|yt (γ := Nat) [1, 4, 6, 19, 20] (fun z => []) (fun z => [(z, .grow 2 74 (lC ((firstL f).take k ++ [noR]))), (iv, .cells 125 (viewL f (chkL f) (.own z (k + 1))))]) (fun z => True) ?_ (fun _ _ h => h) ?_
  ·refine yg (fun j => Nat.beq j 10) (by kernel_rfl) rfl (y4 (.l (.r (.rest _))))<|ze (i := 0) rfl (by kernel_rfl) (zc (v := .po _ _) rfl)<|ze (i := 1) rfl (by kernel_rfl) (zc (v := .po _ _) rfl)<|ze (i := 2) rfl (by kernel_rfl) (yv rfl)<|ze (i := 3) rfl (by kernel_rfl) (y5 underlying125 rfl sizeOf41 (by decide) rfl rfl)<|ze (i := 4) rfl (by kernel_rfl) (y8 (c := .own _ _) isAgg41 rfl ⟨_, .head⟩ rfl)<|zm (i := 5) rfl (by kernel_rfl)<|zh (iNone) rfl<|z6<|zm (i := 6) rfl (by kernel_rfl)<|yh (rows := [[_, _]]) ps41_1 rfl rfl rfl rfl rfl<|z6<|zm (i := 7) rfl (by kernel_rfl)<|q5 (k := 2) underlying41 Tryz.type74 rfl rfl rfl rfl rfl (fun _ => .head) (by rw [lC_len, hfl]) (by decide) rfl (by show (_ + 1) * 16 ≤ _; omega) (by show _ + 1 ≤ _; omega)<|fun i30 => z6<|AAny.takeK (i := 8) rfl (by kernel_rfl) (by kernel_rfl) (by kernel_rfl) (by kernel_rfl) (yv rfl)<|ze (i := 9) rfl (by kernel_rfl) (y5 underlying125 rfl sizeOf41 (by decide) rfl rfl)<|q6<|qd (i := 10) rfl (by kernel_rfl) (by kernel_rfl)<|qk (l := [_]) (new := [_, _, _, _, _, _]) sizeOf41 rfl rfl rfl rfl rfl rfl .head rfl rfl<|zk (zi (zn .head))<|zk (zi (zn (.tail .head)))<|z6<|q8 (by kernel_rfl) ?_
   exact ⟨i30, ⟨rfl, rfl, rfl, rfl, rfl, trivial⟩, trivial, ⟨_, (.refl _), (by rw [← lC_push]; rfl)⟩, trivial⟩
  ·rintro jz _
   refine za<|z7 rfl<|z2 (zc (v := .po _ _) rfl)<|z2 (yv rfl)<|z2 (y5 underlying125 rfl sizeOf102 (by decide) rfl rfl)<|z2 (y8 (c := .fro _ _) isAgg102 rfl ⟨_, (.tail .head)⟩ rfl)<|z2 (zc (v := .int _ _) rfl)<|z2 (yd (j := k) underlying102 sizeOf109 rfl rfl rfl (makersT_get hk2))<|z2 (zg underlying109 rfl sizeOf3 (by decide) rfl rfl)<|z2 (zf (c := .int _ _) isAgg3 rfl)<|z2 (yn rfl rfl)<|z6<|zy rfl (fun cm => ?_) (fun cm => ?_)
   ·refine yg (fun j => Nat.beq j 9) (by kernel_rfl) rfl (y4 (.l (.r (.rest _))))<|ze (i := 0) rfl (by kernel_rfl) (zc (v := .po _ _) rfl)<|ze (i := 1) rfl (by kernel_rfl) (yv rfl)<|ze (i := 2) rfl (by kernel_rfl) (y5 underlying125 rfl sizeOf41 (by decide) rfl rfl)<|ze (i := 3) rfl (by kernel_rfl) (y8 (c := .own _ _) isAgg41 rfl ⟨_, .head⟩ rfl)<|ze (i := 4) rfl (by kernel_rfl) (zc (v := .int _ _) rfl)<|ze (i := 5) rfl (by kernel_rfl) (zr isAgg26 sizeOf26 rfl rfl)<|ze (i := 6) rfl (by kernel_rfl) (zc (v := .int _ _) rfl)<|zm (i := 7) rfl (by kernel_rfl)<|zh (hvf) rfl<|z6<|zm (i := 8) rfl (by kernel_rfl)<|z2 (Gv.idxR (j := k) underlying41 sizeOf74 rfl rfl rfl ⟨_, .head⟩ (by rw [List.length_append, hfl]; rfl) (by omega))<|z6<|q6<|qd (i := 9) rfl (by kernel_rfl) (by kernel_rfl)<|AOps.storeR (j := k) sizeOf74 rfl rfl (.tail .head) (by rw [List.length_append, hfl]; show k < k + 1; omega)<|z6<|q8 (by kernel_rfl)<|yw (zi (zn (.tail .head)))<|z7 rfl<|z2 (yl rfl rfl (by unfold I64; omega))<|z2 (zc (v := .int _ _) rfl)<|z6 ?_
    exact ⟨(k + 1, jz), ⟨rfl, rfl, rfl, trivial⟩, ⟨rfl, trivial⟩, ⟨_, (.refl _), by rw [hft, show first0R f (k : Int) = firstR f (k : Int) by unfold first0R; rw [if_pos cm], List.set_append_right k (firstR f k) (by omega), hfl, Nat.sub_self]; rfl⟩, hk2, by dsimp only; omega⟩
   ·refine zp<|z7 rfl<|z2 (yl rfl rfl (by unfold I64; omega))<|z2 (zc (v := .int _ _) rfl)<|z6 ?_
    exact ⟨(k + 1, jz), ⟨rfl, rfl, rfl, trivial⟩, ⟨rfl, trivial⟩, ⟨_, (.refl _), by rw [hft, show first0R f (k : Int) = noR by unfold first0R; rw [if_neg cm]]; try rfl⟩, hk2, by dsimp only; omega⟩
 ·have hkn : k = f.vars.length := by simp at ck; omega
  subst hkn
  rw [show (firstL f).take f.vars.length = firstL f by rw [← firstL_len f, List.take_length]]
  refine yf<|za<|z7 rfl<|z2 (zd (v := .int _ _) rfl)<|z6<|za<|za<|z7 rfl<|z2 (zd (v := .int _ _) rfl)<|z6<|yw (yo (t := 4) rfl (.tail .head))<|zq<|yj (γ := Nat × Int) [4] (fun g => [(7, .int .i64 (if 3 ≤ g.1 then 1 else 0)), (8, .int .i64 g.2)]) (fun g => [(jl, .grow 2 74 (lC (rndF f g.1)))]) (fun g => g.1 ≤ K ∧ (g.1 < 3 → g.2 = (g.1 : Int) + 1)) (fun g => K - g.1) (0, 1) ⟨rfl, rfl, trivial⟩ ⟨_, (.refl _), rfl⟩ (⟨Nat.zero_le _, fun _ => rfl⟩) ?_
  rintro ⟨m, z⟩ ⟨hm, hz⟩
  try dsimp only at *
  refine za<|za<|z7 rfl<|z2 (zc (v := .pf _) rfl)<|z2 (zc (v := .int _ _) rfl)<|yc rfl (y4 (.l (.rest _))) (vround_grow f hF hR m jl _) ?_
  rintro r54 O54 ⟨rfl, rfl⟩
  refine z6<|y9 rfl (fun cr => ?_) (fun cr => ?_)
  ·have hne : ¬ rndF f (m + 1) = rndF f m := notdecT cr
   have hm2 : m < K := by
    rcases (by omega : m < K ∨ m = K) with h | h
    ·exact h
    ·rw [h] at hne; exact absurd hK.still hne
   refine zp<|za<|yt (γ := Int) [4, 8] (fun w => [(7, .int .i64 w)]) (fun w => [(jl, .grow 2 74 (lC (rndF f (m + 1))))]) (fun w => w = if 3 ≤ m + 1 then 1 else 0) ?_ (fun _ _ h => h) ?_
   ·refine zq<|za<|z7 rfl<|z2 (zc (v := .int _ _) rfl)<|z2 (qi rfl rfl)<|z6<|zy rfl (fun c3 => ?_) (fun c3 => ?_)
    ·refine z7 rfl<|z2 (zd (v := .int _ _) rfl)<|z6 ?_
     exact ⟨_, ⟨rfl, rfl, trivial⟩, ⟨rfl, trivial⟩, ⟨_, (.refl _), rfl⟩, by split; rfl; (have := hz (by omega); omega)⟩
    ·refine zp ?_
     exact ⟨_, ⟨rfl, rfl, trivial⟩, ⟨rfl, trivial⟩, ⟨_, (.refl _), rfl⟩, by by_cases h : 3 ≤ m; rw [if_pos h, if_pos (by omega)]; (have := hz (by omega); rw [if_neg h, if_neg (by omega)])⟩
   ·rintro w hw
    subst hw
    refine z7 rfl<|z2 (zc (v := .int _ _) rfl)<|z2 (Gv.addW rfl rfl)<|z2 (zd (v := .int _ _) rfl)<|z6 ?_
    exact ⟨(m + 1, IntKind.i64.wrap (z + 1)), ⟨rfl, trivial⟩, ⟨rfl, rfl, trivial⟩, ⟨_, (.refl _), rfl⟩, ⟨hm2, fun h => by rw [hz (by omega)]; exact wrap_fit (by unfold is64; omega)⟩, by dsimp only; omega⟩
  ·have hst : rndF f (m + 1) = rndF f m := notdecF cr
   have hmK : m = K := by
    rcases (by omega : m < K ∨ m = K) with h | h
    ·exact absurd hst (hK.moves m h)
    ·exact h
   subst hmK
   rw [hst]
   refine yf<|za<|za<|z7 rfl<|z2 (zc (v := .int _ _) rfl)<|z6<|zq<|yj (γ := Nat) [4] (fun q => [(59, .int .i64 q)]) (fun q => [(jl, .grow 2 74 (lC (narN f (rndF f m) q)))]) (fun q => q ≤ 2) (fun q => 2 - q) 0 ⟨rfl, trivial⟩ ⟨_, (.refl _), rfl⟩ (Nat.zero_le _) ?_
   rintro q hq
   refine za<|z7 rfl<|z2 (yn rfl rfl)<|z6<|za<|zy rfl (fun cq => ?_) (fun cq => ?_)
   ·refine zp<|za<|zq<|z7 rfl<|z2 (zc (v := .pf _) rfl)<|yc rfl (y4 (.l (.rest _))) (vround_meet f hF hR (narN f (rndF f m) q) (narN_ok hR (rndF_g hR m).ok q) jl _) ?_
    rintro r62 O62 ⟨c62, rfl, rfl, _⟩
    refine z6<|z7 rfl<|z2 (yl rfl rfl (by unfold I64; omega))<|z2 (zc (v := .int _ _) rfl)<|z6 ?_
    exact ⟨q + 1, ⟨rfl, trivial⟩, ⟨rfl, trivial⟩, ⟨_, (.refl _), rfl⟩, by omega, by omega⟩
   ·obtain rfl : q = 2 := by omega
    refine yf<|za<|z7 rfl<|z2 (zc (v := .pf _) rfl)<|z2 (q7 rfl)<|z2 (zg underlying125 rfl sizeOf41 (by decide) rfl rfl)<|z2 (zf (c := .own _ _) isAgg41 rfl)<|z2 (zd (v := .own _ _) rfl)<|z2 (zd (v := .int _ _) rfl)<|z6<|yw (GStep.knowR (t := 2) rfl .head hend.1)<|zo<|qp (x := .fro _ _) (y := .int _ _) rfl rfl ?_
    rfl
end Go.Proofs.YtjnpcfpecilejaaGreatDoor
namespace Go.Proofs.YtjnpcfpecilejaaGreatDoor
open Go.Proofs.Tryz
open Go.Proofs Go.Lib Go.Shelf Go.RowKit
variable {E : World}
set_option maxRecDepth 20000
end Go.Proofs.YtjnpcfpecilejaaGreatDoor
namespace Go.Proofs.YtjnpcfpecilejaaGreatDoor
open Go.Proofs.Tryz
open Go.Proofs
def Imp (x y : AV) : Prop := ∀ I v, RepV I x v → RepV I y v
def ImpL (xs ys : List AV) : Prop := ∀ I vs, RepL I xs vs → RepL I ys vs
theorem Imp.refl (x : AV) : Imp x x := fun _ _ h => h
theorem Imp.nil (k : Nat) : Imp (.raw (.slice none 0 0)) (.fro k []) := fun _ _ h => ⟨none, 0, 0, h, rfl, Nat.le_refl _, fun _ => rfl, trivial⟩
theorem ImpL.nil : ImpL [] [] := fun _ _ h => h
theorem ImpL.cons {x y : AV} {xs ys : List AV} (h : Imp x y) (hs : ImpL xs ys) : ImpL (x :: xs) (y :: ys) := fun I _ ⟨v, us, e, h1, h2⟩ => ⟨v, us, e, h I v h1, hs I us h2⟩
theorem Imp.agg {xs ys : List AV} (h : ImpL xs ys) : Imp (.agg xs) (.agg ys) := fun I _ ⟨vs, e, h1⟩ => ⟨vs, e, h I vs h1⟩
end Go.Proofs.YtjnpcfpecilejaaGreatDoor
namespace Go.Proofs.YtjnpcfpecilejaaGreatDoor
open Go.Proofs.Tryz
open Go.Proofs Go.Lib Go.Shelf Go.RowKit
theorem pl56 : Places Tryz.prog 56 #[(0, 1), (1, 1)] [.str ⟨#[]⟩, .int .i64 0] := ⟨_, _, underlying56, zeroValue56, fun w => by kernel_rfl, rfl⟩
theorem ps22_2 : PlacesS Tryz.prog 22 56 2 2 [.str ⟨#[]⟩, .int .i64 0, .str ⟨#[]⟩, .int .i64 0] := ⟨_, underlying22, sizeOf56, zeroValue56, by decide, by decide, by kernel_rfl⟩
theorem pl33 : Places Tryz.prog 33 #[(0, 1), (1, 1), (2, 1), (3, 1)] [.int .i64 0, .int .i64 0, .raw (.slice none 0 0), .int .i64 0] := ⟨_, _, underlying33, zeroValue33, fun w => by kernel_rfl, rfl⟩
theorem ps60_2 : PlacesS Tryz.prog 60 33 2 4 [.int .i64 0, .int .i64 0, .raw (.slice none 0 0), .int .i64 0, .int .i64 0, .int .i64 0, .raw (.slice none 0 0), .int .i64 0] := ⟨_, underlying60, sizeOf33, zeroValue33, by decide, by decide, by kernel_rfl⟩
theorem pl64 : Places Tryz.prog 64 #[(0, 1), (1, 1), (2, 2)] [.int .i64 0, .int .i64 0, .int .i64 0, .int .i64 0] := ⟨_, _, underlying64, zeroValue64, fun w => by kernel_rfl, rfl⟩
variable {E : World}
set_option maxRecDepth 20000
def lives22 : PFunc := ⟨[⟨⟨#[110]⟩, 0⟩, ⟨⟨#[109]⟩, 0⟩], [], [⟨⟨#[97]⟩, [], [⟨0, 0, [], 5⟩, ⟨2, 1, [0, 0], 0⟩], ⟨2, 1, 0, 0⟩⟩]⟩
theorem small22 : small lives22 := by unfold small lives22; simp [smallBlk]; decide
theorem sing22 : (typedB lives22 && singB lives22) = true := by decide +kernel
theorem nums22 : ∀ b ∈ lives22.blocks, ∀ x ∈ b.insts, is64 x.num := by decide
theorem stops22 : Stops lives22 1 := ⟨by decide +kernel, fun i hi => by obtain rfl : i = 0 := (by omega); decide +kernel⟩
theorem end22 : endF lives22 1 = [(5, 5), (10, 10)] := by decide +kernel
theorem lives22_spec (hL : Letters E) : AFun Tryz.prog E 32 [] (.bool true) := by
 have hF := ruleF_of small22 sing22
 have ha := vOf_ok (E := E) lives22 small22 hL sing22 (made_rules (ruleF_ok hF nums22) (made_of hF)) 1 stops22
 rw [end22] at ha
 refine zx func32 rfl (by decide) rfl<|za<|z7 rfl<|z2 (zd (v := .bool _) rfl)<|z6<|za<|z7 rfl<|z2 (ya (cps := [(0, [_])]) (rs := [_, .int .i64 0]) pl56 rfl rfl rfl)<|z2 (ya (cps := [(0, [_])]) (rs := [_, .int .i64 0]) pl56 rfl rfl rfl)<|yh (rows := [[_, _], [_, _]]) ps22_2 rfl rfl rfl rfl rfl<|z2 (ya (cps := [(0, [_]), (1, [_]), (3, [_])]) (rs := [_, _, .raw (.slice none 0 0), _]) pl33 rfl rfl rfl)<|zk (GStep.slot (t := 7) rfl (Imp.agg (.cons (.refl _) (.cons (.refl _) (.cons (.nil 1) (.cons (.refl _) .nil))))))<|yh (rows := [[_], [_]]) ps23_2 rfl rfl rfl rfl rfl<|z2 (ya (cps := [(0, [_]), (1, [_]), (2, [_])]) (rs := [_, _, _, .int .i64 0]) pl33 rfl rfl rfl)<|yh (rows := [[_, _, _, _], [_, _, _, _]]) ps60_2 rfl rfl rfl rfl rfl<|z2 (ya (cps := [(0, [_]), (1, [_])]) (rs := [_, _, .int .i64 0, .int .i64 0]) pl64 rfl rfl rfl)<|z2 (ya (cps := [(0, [_]), (2, [_]), (3, [_, _, _, _])]) (rs := [_, .raw (.slice none 0 0), _, _, _, _, _]) pl66 rfl rfl rfl)<|zk (GStep.slot (t := 12) rfl (Imp.agg (.cons (.refl _) (.cons (.nil 3) (.cons (.refl _) (.cons (.refl _) (.cons (.refl _) (.cons (.refl _) (.cons (.refl _) .nil)))))))))<|yh (rows := [[_, _, _, _, _, _, _]]) ps24_1 rfl rfl rfl rfl rfl<|z2 (ya (cps := [(0, [_]), (2, [_])]) (rs := [_, .raw (.slice none 0 0), _]) pl26 rfl rfl rfl)<|zk (GStep.slot (t := 14) rfl (Imp.agg (.cons (.refl _) (.cons (.nil 1) (.cons (.refl _) .nil)))))<|zz (cs := [.raw (.slice none 0 0), .raw (.slice none 0 0), .raw (.slice none 0 0)]) zeroValue26 rfl rfl<|fun i1 => zj sizeOf26 rfl rfl rfl rfl rfl rfl .head rfl<|zk (yo (t := 1) rfl .head)<|z6<|za<|z7 rfl<|z2 (zr isAgg26 sizeOf26 rfl rfl)<|zh (ha) rfl<|z2 (zc (v := .tup _) rfl)<|z2 (yp (v := .fro _ _) rfl rfl)<|z2 (yp (v := .int _ _) rfl rfl)<|z2 (zd (v := .fro _ _) rfl)<|z2 (zd (v := .int _ _) rfl)<|z6<|za<|z7 rfl<|z2 (zc (v := .int _ _) rfl)<|z2 (yi rfl rfl)<|z2 (zc (v := .bool _) rfl) ?_
 refine zb rfl rfl rfl<|z2 (zc (v := .fro _ _) rfl)<|zb rfl rfl rfl<|z2 (yb underlying41 rfl)<|zb rfl rfl rfl<|z2 (yi rfl rfl)<|z2 (zu (v := .bool _) rfl rfl rfl)<|z2 (zc (v := .bool _) rfl)<|zb rfl rfl rfl<|z2 (zc (v := .fro _ _) rfl)<|zb rfl rfl rfl<|z2 (yd (j := 1) underlying41 sizeOf74 rfl rfl rfl rfl)<|zb rfl rfl rfl<|z2 (zr isAgg74 sizeOf74 rfl rfl)<|zb rfl rfl rfl<|z2 (ya (cps := [(0, [_]), (1, [_])]) (rs := [_, _]) pl74 rfl rfl rfl)<|zb rfl rfl rfl<|z2 (Gv.eqlP (xs := [.int _ _, .int _ _]) (ys := [.int _ _, .int _ _]) (by kernel_rfl) rfl rfl (fun w => eq_range _ _ _ _ w))<|z2 (zu (v := .bool _) rfl rfl rfl)<|z2 (zd (v := .bool _) rfl)<|z6<|zo<|zw (x := .bool _) rfl ?_
 rfl
end Go.Proofs.YtjnpcfpecilejaaGreatDoor
