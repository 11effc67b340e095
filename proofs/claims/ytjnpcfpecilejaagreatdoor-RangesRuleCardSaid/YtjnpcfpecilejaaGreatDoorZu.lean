/- Programs and lists of ranges, out of what a call is handed; the tables, out of what is laid. No conditions. -/
import Derived.Test.YtjnpcfpecilejaaGreatDoorZs
import Derived.Test.YtjnpcfpecilejaaGreatDoorZo
import Derived.Test.YtjnpcfpecilejaaGreatDoorZt
import Derived.Test.YtjnpcfpecilejaaGreatDoorZc
import Derived.Test.YtjnpcfpecilejaaGreatDoorZh
import Derived.Test.YtjnpcfpecilejaaGreatDoorZd
import Derived.Lib.LaidRTab
set_option linter.unusedVariables false
set_option linter.unusedSimpArgs false
set_option linter.unusedSectionVars false
namespace Go.Proofs.YtjnpcfpecilejaaGreatDoor
open Go.Proofs.Tryz
def rF (f : PFunc) : List Rng → Int → Rng := ruleR f (chkV f)
def madeV (f : PFunc) : List Int := (madeL f).map (·.1)
def widF (f : PFunc) (n : Nat) (v : Int) : Option Rng := if 4 ≤ n ∧ (makerT f v).2 = -1 then some (rType (tyV f v)) else none
def nextR (f : PFunc) (l : List Rng) (v : Int) (phi : Bool) (how : Int) : Rng :=
 if how = 2 then rMeet (lv l v) (rF f l v) else if how = 1 ∧ phi = true then widQ (rType (tyV f v)) (lv l v) (rF f l v) else rJoin (lv l v) (rF f l v)
def putS (f : PFunc) (how : Int) (s : List Rng × Bool) (q : Int × Bool) : List Rng × Bool := (s.1.set q.1.toNat (nextR f s.1 q.1 q.2 how), !decide (nextR f s.1 q.1 q.2 how = lv s.1 q.1) || s.2)
def rndS (f : PFunc) (how : Int) (qs : List (Int × Bool)) (s : List Rng × Bool) : List Rng × Bool := qs.foldl (putS f how) s
theorem rndS_snoc (f : PFunc) (how : Int) (qs : List (Int × Bool)) (q : Int × Bool) (s : List Rng × Bool) : rndS f how (qs ++ [q]) s = putS f how (rndS f how qs s) q := by unfold rndS; rw [List.foldl_append]; rfl
def MadeF (f : PFunc) : Prop := ∀ q ∈ madeL f, 0 ≤ q.1 ∧ q.1 < f.vars.length ∧ 0 ≤ (makerT f q.1).1 ∧ (q.2 = true ↔ (makerT f q.1).2 = -1)
theorem made_rules {f : PFunc} (hf : RuleOk f) (hm : MadeF f) : Rules f.vars.length (rF f) (madeV f) := ruleR_rules hf _ fun v hv => by
 obtain ⟨q, hq, rfl⟩ := List.mem_map.1 hv
 have := hm q hq
 exact ⟨this.1, this.2.1⟩
theorem wid_ok (f : PFunc) (i : Nat) (v : Int) (t : Rng) (h : widF f i v = some t) : ok64 t := by
 unfold widF at h
 split at h
 ·cases h; exact rType_ok _
 ·cases h
def hows (how : Int) (n : Nat) : Prop := how = if 4 ≤ n then 1 else 0
theorem next_grow {f : PFunc} (hm : MadeF f) {how : Int} {n : Nat} (hh : hows how n) (l : List Rng) {q : Int × Bool} (hq : q ∈ madeL f) : nextR f l q.1 q.2 how = growR (rF f) (widF f n) l q.1 := by
 obtain ⟨_, _, _, h⟩ := hm q hq
 unfold nextR growR widF
 unfold hows at hh
 subst hh
 by_cases h4 : 4 ≤ n
 ·rw [if_pos h4, if_neg (by decide)]
  by_cases c : (makerT f q.1).2 = -1
  ·rw [if_pos ⟨rfl, h.2 c⟩, if_pos ⟨h4, c⟩]
  ·rw [if_neg (fun e => c (h.1 e.2)), if_neg (fun e => c e.2)]
 ·rw [if_neg h4, if_neg (by decide), if_neg (fun e => by simp at e), if_neg (fun e => h4 e.1)]
theorem rnd_grow {f : PFunc} (hR : Rules f.vars.length (rF f) (madeV f)) (hm : MadeF f) {how : Int} {n : Nat} (hh : hows how n) : ∀ (qs : List (Int × Bool)) (l : List Rng) (c : Bool), (∀ q ∈ qs, q ∈ madeL f) → GOkR f.vars.length l →
  GOkR f.vars.length (rndS f how qs (l, c)).1 ∧ (rndS f how qs (l, c)).1 = growA (rF f) (widF f n) (qs.map (·.1)) l ∧ ((rndS f how qs (l, c)).2 = true ↔ c = true ∨ growA (rF f) (widF f n) (qs.map (·.1)) l ≠ l)
 | [], l, c, _, hl => ⟨hl, rfl, by simp [rndS, growA]⟩
 | q :: qs, l, c, hs, hl => by
  have hq := hs q (.head _)
  have hqv : q.1 ∈ madeV f := List.mem_map.2 ⟨q, hq, rfl⟩
  obtain ⟨h1, h2, h3⟩ := growS_ok hR (wid_ok f n) hl hqv
  have hn := next_grow hm hh l hq
  obtain ⟨g1, g2, g3⟩ := rnd_grow hR hm hh qs (growS (rF f) (widF f n) l q.1) (!decide (growR (rF f) (widF f n) l q.1 = lv l q.1) || c) (fun x hx => hs x (.tail _ hx)) h1
  have e : rndS f how (q :: qs) (l, c) = rndS f how qs (growS (rF f) (widF f n) l q.1, !decide (growR (rF f) (widF f n) l q.1 = lv l q.1) || c) := by
   show rndS f how qs (putS f how (l, c) q) = _
   unfold putS growS
   dsimp only
   rw [hn]
  have e2 : growA (rF f) (widF f n) ((q :: qs).map (·.1)) l = growA (rF f) (widF f n) (qs.map (·.1)) (growS (rF f) (widF f n) l q.1) := rfl
  rw [e, e2]
  refine ⟨g1, g2, ?_⟩
  rw [g3]
  obtain ⟨k1, k2, k3⟩ := growA_ok hR (wid_ok f n) (qs.map (·.1)) (growS (rF f) (widF f n) l q.1) (fun x hx => by obtain ⟨y, hy, rfl⟩ := List.mem_map.1 hx; exact List.mem_map.2 ⟨y, hs y (.tail _ hy), rfl⟩) h1
  by_cases c0 : growR (rF f) (widF f n) l q.1 = lv l q.1
  ·have hr := hR.rng q.1 hqv
   have e3 := growS_same (rule := rF f) (wid := widF f n) (l := l) (v := q.1) hr.1 (by rw [hl.ok.1]; omega) c0
   rw [e3, qw c0]
   simp
  ·have h4 := h2.resolve_left c0
   rw [qx c0]
   simp only [Bool.not_false, Bool.true_or, true_or, true_iff]
   refine .inr fun h => ?_
   rw [h] at k2
   omega
theorem rnd_meet {f : PFunc} (hR : Rules f.vars.length (rF f) (madeV f)) : ∀ (qs : List (Int × Bool)) (l : List Rng) (c : Bool), (∀ q ∈ qs, q ∈ madeL f) → okL64 f.vars.length l →
  okL64 f.vars.length (rndS f 2 qs (l, c)).1 ∧ (rndS f 2 qs (l, c)).1 = (qs.map (·.1)).foldl (narrow (rF f)) l
 | [], l, c, _, hl => ⟨hl, rfl⟩
 | q :: qs, l, c, hs, hl => by
  have hq := hs q (.head _)
  have hqv : q.1 ∈ madeV f := List.mem_map.2 ⟨q, hq, rfl⟩
  have h1 := narrow_ok hR hl hqv
  exact rnd_meet hR qs (narrow (rF f) l q.1) (!decide (nextR f l q.1 q.2 2 = lv l q.1) || c) (fun x hx => hs x (.tail _ hx)) h1
theorem rnd_ok {f : PFunc} (hR : Rules f.vars.length (rF f) (madeV f)) (how : Int) : ∀ (qs : List (Int × Bool)) (s : List Rng × Bool), (∀ q ∈ qs, q ∈ madeL f) → okL64 f.vars.length s.1 → okL64 f.vars.length (rndS f how qs s).1
 | [], s, _, hl => hl
 | q :: qs, s, hs, hl => by
  have hq := hs q (.head _)
  have hqv : q.1 ∈ madeV f := List.mem_map.2 ⟨q, hq, rfl⟩
  have hr := hR.rng q.1 hqv
  refine rnd_ok hR how qs _ (fun x hx => hs x (.tail _ hx)) ⟨by unfold putS; dsimp only; rw [List.length_set]; exact hl.1, fun u hu => ?_⟩
  unfold putS
  dsimp only
  rw [lv_set hr.1 (by rw [hl.1]; omega) _ hu]
  have h1 := hl.2 q.1 hr.1
  have h2 := hR.ok s.1 q.1 hl.1 hl.2 hqv
  split
  ·unfold nextR
   split
   ·exact rMeet_ok h1 h2
   ·split
    ·exact widQ_ok (rType_ok _) h1 h2
    ·exact rJoin_ok h1 h2
  ·exact hl.2 u hu
def rndF (f : PFunc) : Nat → List Rng
 | 0 => firstL f
 | i + 1 => growA (rF f) (widF f (i + 1)) (madeV f) (rndF f i)
structure Stops (f : PFunc) (K : Nat) : Prop where
 still : rndF f (K + 1) = rndF f K
 moves : ∀ i, i < K → rndF f (i + 1) ≠ rndF f i
def endF (f : PFunc) (K : Nat) : List Rng := (madeV f).foldl (narrow (rF f)) ((madeV f).foldl (narrow (rF f)) (rndF f K))
theorem firstR_okn (f : PFunc) (v : Int) : ok64 (firstR f v) ∧ nrm (firstR f v) := by
 unfold firstR
 split
 ·refine ⟨rType_ok _, ?_⟩
  unfold rType nrm
  (repeat' split) <;> exact fun h => by revert h; decide
 ·exact ⟨⟨by decide, by decide⟩, fun h => absurd h (by decide)⟩
theorem firstL_lv {f : PFunc} {u : Int} (hu : 0 ≤ u) : lv (firstL f) u = if u < f.vars.length then first0R f u else noR := by
 unfold lv firstL
 rw [qr]
 by_cases c : u < f.vars.length
 ·rw [if_pos c, List.getElem?_range (by omega)]
  simp only [Option.map_some, Option.getD_some]
  rw [Int.toNat_of_nonneg hu]
 ·rw [if_neg c, List.getElem?_eq_none (by simp; omega)]; rfl
theorem firstL_g (f : PFunc) : GOkR f.vars.length (firstL f) := by
 have key : ∀ u : Int, 0 ≤ u → ok64 (lv (firstL f) u) ∧ nrm (lv (firstL f) u) := fun u hu => by
  rw [firstL_lv hu]
  have h0 : ok64 noR ∧ nrm noR := ⟨noR_ok, fun _ => rfl⟩
  split
  ·unfold first0R
   split
   ·exact firstR_okn f u
   ·exact h0
  ·exact h0
 exact ⟨⟨firstL_len f, fun u hu => (key u hu).1⟩, fun u hu => (key u hu).2⟩
theorem rndF_g {f : PFunc} (hR : Rules f.vars.length (rF f) (madeV f)) : ∀ i, GOkR f.vars.length (rndF f i)
 | 0 => firstL_g f
 | i + 1 => (growA_ok hR (wid_ok f (i + 1)) (madeV f) _ (fun _ h => h) (rndF_g hR i)).1
theorem Stops.eq {f : PFunc} {K K' : Nat} (h : Stops f K) (h' : Stops f K') : K = K' := by
 rcases Nat.lt_trichotomy K K' with c | c | c
 ·exact absurd h.still (h'.moves K c)
 ·exact c
 ·exact absurd h'.still (h.moves K' c)
theorem endF_post {f : PFunc} (hR : Rules f.vars.length (rF f) (madeV f)) {K : Nat} (h : Stops f K) : okL64 f.vars.length (endF f K) ∧ PostR (rF f) (madeV f) (endF f K) := by
 have h1 := rndF_g hR K
 have h2 := grow_post (growA_still hR (wid_ok f (K + 1)) (madeV f) _ (fun _ h => h) h1 h.still)
 obtain ⟨g1, g2⟩ := narrow_all hR (madeV f) _ (fun _ h => h) h1.ok h2
 exact narrow_all hR (madeV f) _ (fun _ h => h) g1 g2
end Go.Proofs.YtjnpcfpecilejaaGreatDoor
namespace Go.Proofs.YtjnpcfpecilejaaGreatDoor
open Go.Proofs.Tryz
open Go.Proofs
theorem knowL {I : G} {F : List (Nat × Obj)} {E w : World} {i k m : Nat} {T : TypeId} {rows : List (List AV)} (hk : ∀ r ∈ rows, r.length = k) (hk0 : 0 < k) (hm : rows.length = m) (h : SLA I [(i, .grow k T rows.flatten)] F E w) :
  ∃ J L, I.le J ∧ RepOs I [(i, .grow k T rows.flatten)] L ∧ SL I.k (L ++ F) E w ∧ (∀ y ∈ L, J.k y.1 = some y.2) ∧ SLA J [] F E w ∧ ∀ v, RepV I (.own i m) v → RepV J (.fro k rows) v := by
 obtain ⟨ht, L, hL, hS⟩ := h
 have hL0 := hL
 obtain ⟨A, B, hp, ⟨b, c, n, vs, e1, hvs, hvc, hown⟩, hB⟩ := hL
 have hB : B = [] := hB
 simp only at e1
 rw [hB, List.append_nil] at hp
 subst hp
 have hflat : rows.flatten.length = rows.length * k := by
  clear hvs hm hL0
  induction rows with
  | nil => simp
  | cons r rows ih => simp only [List.flatten_cons, qp, List.length_cons, ih (fun r h => hk r (by simp [h])), hk r (by simp), Nat.add_mul]; omega
 have hnm : n = m := by
  have h5 := hown.1
  have h6 := hvs.length
  have : n * k = m * k := by rw [← hm]; omega
  exact Nat.eq_of_mul_eq_mul_right hk0 this
 subst hnm
 obtain ⟨h5, h6, h7⟩ := hown
 rcases h7 with ⟨ea, rfl, rfl⟩ | ⟨b', junk, ea, rfl, hj⟩
 ·refine ⟨I, [], .refl _, hL0, hS, fun y hy => (by cases hy), ⟨ht, [], rfl, by simpa using hS⟩, ?_⟩
  rintro v ⟨b2, c2, e2, rfl⟩
  rw [e1] at e2
  simp only [Option.some.injEq, Prod.mk.injEq] at e2
  obtain ⟨rfl, rfl⟩ := e2
  have h0 : rows = [] := qv (by omega)
  subst h0
  exact ⟨adr b, n, 0, rfl, hm.symm, h6, fun _ => rfl, trivial⟩
 ·cases b with
  | none => simp [adr] at ea
  | some b =>
   simp [adr] at ea
   subst ea
   obtain ⟨hl, hS3⟩ := SL.freeze (by simpa using hS : SL I.k ((b, .cells (vs ++ junk).toArray T (0, 0)) :: F) E w)
   let J : G := ⟨I.k.put b (.cells (vs ++ junk).toArray T (0, 0)), I.h⟩
   have hle : I.le J := ⟨hl, fun _ _ h => h⟩
   have hb : J.k b = some (.cells (vs ++ junk).toArray T (0, 0)) := Ghost.put_same _ _ _
   refine ⟨J, _, hle, hL0, hS, fun y hy => (by rw [List.mem_singleton.1 hy]; exact hb), ⟨ht, [], rfl, by simpa using hS3⟩, ?_⟩
   rintro v ⟨b2, c2, e2, rfl⟩
   rw [e1] at e2
   simp only [Option.some.injEq, Prod.mk.injEq] at e2
   obtain ⟨rfl, rfl⟩ := e2
   refine ⟨adr (some b), n, c, rfl, hm.symm, h6, fun h => by simp [adr] at h, RepR.of_flat hb rows vs 0 hk (RepL.mono hle _ _ hvs) fun i u hu => ?_⟩
   rw [Nat.zero_mul, Nat.zero_add, List.getElem?_toArray, List.getElem?_append_left (List.getElem?_eq_some_iff.1 hu).1]
   exact hu
theorem ACall.lend {P : Program} {E : World} {f : FuncId} {ars ars' : List AV} {x : AV} {i m k : Nat} {T : TypeId} {rows : List (List AV)} (hk : ∀ r ∈ rows, r.length = k) (hk0 : 0 < k) (hm : rows.length = m)
  (has : ∀ I J : G, I.le J → (∀ v, RepV I (.own i m) v → RepV J (.fro k rows) v) → ∀ vs, RepL I ars vs → RepL J ars' vs) (hx : ∀ (I J : G) v, RepV J x v → RepV I x v)
  (h : AFun P E f ars' x) : ACall P E f ars [(i, .grow k T rows.flatten)] fun y O => y = x ∧ O = [(i, .grow k T rows.flatten)] := fun I F w vs h1 h2 => by
 obtain ⟨J, L, hle, hL, hS, hf, hJ, hv⟩ := knowL hk hk0 hm h2
 refine (h J F w vs (has I J hle hv vs h1) hJ).mono fun v w' ⟨J2, y, O', a, b, c, d⟩ => ?_
 have d : y = x := d
 subst d
 obtain ⟨_, L', _, hS'⟩ := c
 refine ⟨I, y, _, .refl _, hx I J2 v b, ⟨h2.1, L, hL, ?_⟩, rfl, rfl⟩
 refine ⟨hS'.os, hS'.output, hS'.tape, fun b o hb => hS'.pers b o (a.k b o (hle.k b o hb)), fun z hz => ?_, hS.nodup, hS.apart, hS.base, hS.flat, hS.oflat⟩
 rcases List.mem_append.1 hz with hz | hz
 ·exact hS'.pers _ _ (a.k _ _ (hf z hz))
 ·exact hS'.own z (List.mem_append_right _ hz)
theorem lC_flat (l : List Rng) : (l.map encZ).flatten = lC l := by
 unfold lC Enc.av; rw [List.flatMap_def]; rfl
theorem encZ_any {I J : G} {r : Rng} {v : Value} (h : RepV J (.agg (encZ r)) v) : RepV I (.agg (encZ r)) v := by
 obtain ⟨vs, rfl, a, _, rfl, h1, b, _, rfl, h2, h3⟩ := h
 exact ⟨_, rfl, a, _, rfl, h1, b, _, rfl, h2, h3⟩
end Go.Proofs.YtjnpcfpecilejaaGreatDoor
namespace Go.Proofs.YtjnpcfpecilejaaGreatDoor
open Go.Proofs.Tryz
open Go.Proofs Go.Lib Go.Shelf Go.RowKit
variable {E : World}
set_option maxRecDepth 20000
theorem ACall.now {P : Program} {E : World} {f : FuncId} {ars : List AV} {O O0 : OL} {x : AV} (h : ACall P E f ars O fun y O' => y = x ∧ Left O' O0) : ACall P E f ars O fun y O' => y = x ∧ O' = O0 :=
 (ACall.exact (γ := Unit) (x := fun _ => x) (M := fun _ => O0) (p := fun _ => True) (h.mono fun _ _ h => ⟨(), h.1, h.2, trivial⟩)).mono fun _ _ ⟨_, h1, h2, _⟩ => ⟨h1, h2⟩
theorem made_of {f : PFunc} (hF : RuleF f) : MadeF f := by
 rintro ⟨v, p⟩ hq
 obtain ⟨b, hb, hc⟩ := mem_madeL.1 hq
 obtain ⟨i, hi⟩ := List.mem_iff_getElem?.1 hb
 obtain ⟨hPh, hIn, _⟩ := hF.shaped.2.2.2.2.2 b hb
 dsimp only
 rcases hc with ⟨rfl, q, hqb, rfl⟩ | ⟨rfl, h0, x, hx, rfl⟩
 ·obtain ⟨h0, h1⟩ := hasV_rng (hPh q hqb).1
  have hm : ((i : Int), (-1 : Int)) ∈ makings f q.dst := mem_makings.2 ⟨i, b, hi, mem_mkBlk.2 (.inl ⟨q, hqb, rfl, rfl⟩)⟩
  have ho := (hF.once q.dst.toNat (by omega)).1
  rw [Int.toNat_of_nonneg h0] at ho
  rw [maker_eq ho hm]
  exact ⟨h0, h1, by dsimp only; omega, by simp⟩
 ·have h1 : x.dst < f.vars.length := by
   rcases (instP_F (hIn x hx)).dst with ⟨_, h⟩ | ⟨_, _, h⟩
   ·omega
   ·exact (hasV_rng h).2
  obtain ⟨k, hk⟩ := List.mem_iff_getElem?.1 hx
  have hm : ((i : Int), (k : Int)) ∈ makings f x.dst := mem_makings.2 ⟨i, b, hi, mem_mkBlk.2 (.inr ⟨k, x, hk, rfl, rfl⟩)⟩
  have ho := (hF.once x.dst.toNat (by omega)).1
  rw [Int.toNat_of_nonneg h0] at ho
  rw [maker_eq ho hm]
  exact ⟨h0, h1, by dsimp only; omega, by dsimp only; constructor; (intro h; cases h); (intro h; omega)⟩
theorem ruleF_ok {f : PFunc} (hF : RuleF f) (hN : ∀ b ∈ f.blocks, ∀ x ∈ b.insts, is64 x.num) : RuleOk f where
 args := fun b hb x hx v hv => (hasV_rng ((instP_F ((hF.shaped.2.2.2.2.2 b hb).2.1 x hx)).args v hv)).1
 pargs := fun b hb p hp v hv => by
  obtain ⟨_, _, _, hpa, _⟩ := (hF.shaped.2.2.2.2.2 b hb).1 p hp
  exact (hasV_rng (List.all_eq_true.1 hpa v hv)).1
 bool := hF.bool
 two := fun b hb x hx => by
  have := (instP_F ((hF.shaped.2.2.2.2.2 b hb).2.1 x hx)).len
  constructor
  ·intro h; rw [this, h, takes_10]; decide
  ·intro h; rw [this, h, takes_11]; decide
 num := hN
theorem view_lend {I J : G} {i m : Nat} {X : AV} (hle : I.le J) (hv : ∀ v, RepV I (.own i m) v → RepV J X v) (f : PFunc) (chk : List Bool) {v : Value} (h : RepV I (viewV f chk (.own i m)) v) : RepV J (viewV f chk X) v := by
 obtain ⟨b, off, vs, e, ⟨v1, _, rfl, r1, v2, _, rfl, r2, v3, _, rfl, r3, v4, _, rfl, r4, v5, _, rfl, r5, v6, _, rfl, r6, rfl⟩, h2⟩ := h
 exact ⟨b, off, _, e, ⟨v1, _, rfl, r1.mono hle, v2, _, rfl, r2.mono hle, v3, _, rfl, r3.mono hle, v4, _, rfl, r4.mono hle, v5, _, rfl, r5.mono hle, v6, _, rfl, hv _ r6, rfl⟩, fun j u hj => (h2 j u hj).mono hle.k⟩
theorem vnext_fro (f : PFunc) (hF : RuleF f) (l : List Rng) (hl : okL64 f.vars.length l) (v : Nat) (hv : v < f.vars.length) (hm : 0 ≤ (makerT f v).1) (phi : Bool) (how : Int) :
  AFun Tryz.prog E 159 [viewV f (chkL f) (.fro 2 (l.map encZ)), .int .i64 v, .bool phi, .int .i64 how] (.agg (encZ (nextR f l v phi how))) := by
 have hS := hF.shaped
 have hvr := ACall.ofEmpty (vrule_spec (E := E) f hF l (chkL f) (chkL_len f) (.fro 2 (l.map encZ)) (i := 0) (HL := emptyO) (fun ha => of_fro f hS (chkL f) l hl.1 0 emptyO ha) hl.2 v hv hm)
 rw [rule_chk hS hv hm hF.once] at hvr
 have hll := hl.1
 have hty : tyV f v = f.vars[v].ty := by unfold tyV; rw [show ((v : Int).toNat) = v from rfl, qj hv]; rfl
 have hlv : l[v]? = some (lv l v) := lv_get (l := l) (a := (v : Int)) (by omega)
 refine zp func159 rfl (by decide) rfl<|za<|z7 rfl<|zq (cs := [.int .i64 0, .int .i64 0]) zeroValue74 rfl rfl<|fun i8 => z6<|za<|yi (γ := Nat × Nat) [0, 1, 2, 3, 8] (fun z => [(9, .po z.1 0), (10, .po z.2 0)]) (fun z => [(z.1, .cells 74 (encZ (lv l v))), (z.2, .cells 74 (encZ (rF f l v))), (i8, .cells 74 [.int .i64 0, .int .i64 0])]) (fun z => True) ?_ (fun _ _ h => h) ?_
 ·refine zw (fun j => false) (by kernel_rfl) rfl (zu (.rest _))<|zTk (i := 0) rfl (y5 (v := .pf _) rfl)<|zTk (i := 1) rfl (q3 rfl)<|zTk (i := 2) rfl (zc underlying125 rfl sizeOf41 (by decide) rfl rfl)<|zTk (i := 3) rfl (zLf isAgg41 rfl)<|zTk (i := 4) rfl (zMi rfl)<|zTk (i := 5) rfl (zz (j := v) underlying41 sizeOf74 rfl rfl rfl hlv)<|zTk (i := 6) rfl (zj isAgg74 sizeOf74 rfl rfl)<|zTk (i := 7) rfl (y5 (v := .pf _) rfl)<|zTk (i := 8) rfl (zMi rfl)<|qh (i := 9) (j := 10) (m := 11) rfl rfl rfl (by kernel_rfl) ?_ ?_ ?_
  ·refine zd (hvr) rfl<|z6<|yp (i := 10) (j := 11) rfl rfl (by kernel_rfl) ?_ ?_
   ·refine zq (cs := [.int .i64 0, .int .i64 0]) zeroValue74 rfl rfl<|fun i9 => z6<|zOn (i := 11) rfl<|zq (cs := [.int .i64 0, .int .i64 0]) zeroValue74 rfl rfl<|fun i10 => z6<|zOn (i := 12) rfl<|ze sizeOf74 rfl rfl rfl rfl rfl rfl (.tail .head) rfl<|z6<|zOn (i := 13) rfl<|ze sizeOf74 rfl rfl rfl rfl rfl rfl .head rfl<|zi (zh (zl (.tail (.tail .head))))<|zi (zh (zl (.tail .head)))<|zi (zh (zl (.tail (.tail .head))))<|z6<|zDn ?_
    exact ⟨(i9, i10), zR5, zR2, zLe, trivial⟩
   ·refine zq (cs := [.int .i64 0, .int .i64 0]) zeroValue74 rfl rfl<|fun i10 => z6<|zOn (i := 10) rfl<|zq (cs := [.int .i64 0, .int .i64 0]) zeroValue74 rfl rfl<|fun i9 => z6<|zOn (i := 12) rfl<|ze sizeOf74 rfl rfl rfl rfl rfl rfl .head rfl<|z6<|zOn (i := 13) rfl<|ze sizeOf74 rfl rfl rfl rfl rfl rfl (.tail .head) rfl<|z6<|zDn ?_
    exact ⟨(i9, i10), zR5, zR2, zLe, trivial⟩
  ·refine zq (cs := [.int .i64 0, .int .i64 0]) zeroValue74 rfl rfl<|fun i9 => z6<|yp (i := 9) (j := 11) rfl rfl (by kernel_rfl) ?_ ?_
   ·refine zd (hvr) rfl<|z6<|zOn (i := 11) rfl<|zq (cs := [.int .i64 0, .int .i64 0]) zeroValue74 rfl rfl<|fun i10 => z6<|zOn (i := 12) rfl<|ze sizeOf74 rfl rfl rfl rfl rfl rfl (.tail .head) rfl<|z6<|zOn (i := 13) rfl<|ze sizeOf74 rfl rfl rfl rfl rfl rfl .head rfl<|zi (zh (zl (.tail (.tail .head))))<|zi (zh (zl (.tail .head)))<|zi (zh (zl (.tail (.tail .head))))<|z6<|zDn ?_
    exact ⟨(i9, i10), zR5, zR2, zLe, trivial⟩
   ·refine zq (cs := [.int .i64 0, .int .i64 0]) zeroValue74 rfl rfl<|fun i10 => z6<|zOn (i := 9) rfl<|zd (hvr) rfl<|z6<|zOn (i := 12) rfl<|ze sizeOf74 rfl rfl rfl rfl rfl rfl (.tail .head) rfl<|z6<|zOn (i := 13) rfl<|ze sizeOf74 rfl rfl rfl rfl rfl rfl .head rfl<|zi (zh (zl (.tail (.tail .head))))<|zi (zh (zl (.tail .head)))<|zi (zh (zl (.tail (.tail .head))))<|z6<|zDn ?_
    exact ⟨(i9, i10), zR5, zR2, zLe, trivial⟩
  ·refine zq (cs := [.int .i64 0, .int .i64 0]) zeroValue74 rfl rfl<|fun i10 => z6<|yp (i := 9) (j := 10) rfl rfl (by kernel_rfl) ?_ ?_
   ·refine zd (hvr) rfl<|z6<|zOn (i := 10) rfl<|zq (cs := [.int .i64 0, .int .i64 0]) zeroValue74 rfl rfl<|fun i9 => z6<|zOn (i := 12) rfl<|ze sizeOf74 rfl rfl rfl rfl rfl rfl .head rfl<|z6<|zOn (i := 13) rfl<|ze sizeOf74 rfl rfl rfl rfl rfl rfl (.tail .head) rfl<|z6<|zDn ?_
    exact ⟨(i9, i10), zR5, zR2, zLe, trivial⟩
   ·refine zq (cs := [.int .i64 0, .int .i64 0]) zeroValue74 rfl rfl<|fun i9 => z6<|zOn (i := 9) rfl<|zd (hvr) rfl<|z6<|zOn (i := 12) rfl<|ze sizeOf74 rfl rfl rfl rfl rfl rfl .head rfl<|z6<|zOn (i := 13) rfl<|ze sizeOf74 rfl rfl rfl rfl rfl rfl (.tail .head) rfl<|z6<|zDn ?_
    exact ⟨(i9, i10), zR5, zR2, zLe, trivial⟩
 ·rintro ⟨i9, i10⟩ _
  refine za<|zm<|za<|z7 rfl<|z2 (zMi rfl)<|z2 (zy rfl rfl)<|z2 (zAb rfl)<|z6<|zn rfl (fun c2 => ?_) (fun c2 => ?_)
  ·refine za<|z7 rfl<|z2 (yw isAgg74 sizeOf74 rfl ⟨_, .head⟩ rfl)<|z2 (yw isAgg74 sizeOf74 rfl ⟨_, (.tail .head)⟩ rfl)<|zd (iMeet _ _) rfl<|ze sizeOf74 rfl rfl rfl rfl rfl rfl (.tail (.tail .head)) rfl<|z6<|zf<|yf rfl ⟨_, (.tail (.tail .head))⟩ isAgg74 sizeOf74 rfl ?_
   rw [nextR, if_pos c2]; rfl
  ·refine za<|yi (γ := Bool) [0, 1, 8, 9, 10] (fun u => [(27, .bool u)]) (fun u => [(i9, .cells 74 (encZ (lv l v))), (i10, .cells 74 (encZ (rF f l v))), (i8, .cells 74 [.int .i64 0, .int .i64 0])]) (fun u => u = decide (how = 1 ∧ phi = true)) ?_ (fun _ _ h => h) ?_
   ·refine z7 rfl<|z2 (zMi rfl)<|z2 (zy rfl rfl)<|z2 (zMb rfl)<|zr (s := 30) rfl (fun c1 => ?_) (fun c1 => ?_)
    ·refine zb rfl rfl c1<|z2 (zMb rfl)<|z2 (zPt rfl c1 rfl)<|z2 (zAb rfl)<|z6 ?_
     exact ⟨_, zR5, zR1, zLe, by simp_all⟩
    ·refine z8 rfl rfl c1<|z2 (zPf rfl c1 rfl)<|z2 (zAb rfl)<|z6 ?_
     exact ⟨_, zR5, zR1, zLe, by simp_all⟩
   ·rintro u hu
    subst hu
    refine zn rfl (fun c1 => ?_) (fun c1 => ?_)
    ·refine za<|zw (fun j => Nat.beq j 12) (by kernel_rfl) rfl (zu (.r (.r (.rest _))))<|zTk (i := 0) rfl (y5 (v := .pf _) rfl)<|zTk (i := 1) rfl (q3 rfl)<|zTk (i := 2) rfl (zc underlying125 rfl sizeOf26 (by decide) rfl rfl)<|zTk (i := 3) rfl (zc underlying26 rfl sizeOf22 (by decide) rfl rfl)<|zTk (i := 4) rfl (zLf isAgg22 rfl)<|zTk (i := 5) rfl (zMi rfl)<|zTk (i := 6) rfl (zz (j := v) underlying22 sizeOf56 rfl rfl rfl (qj hv))<|zTk (i := 7) rfl (zc underlying56 rfl sizeOf54 (by decide) rfl rfl)<|zTk (i := 8) rfl (zLi isAgg54 rfl)<|zTk (i := 9) rfl (yw isAgg74 sizeOf74 rfl ⟨_, .head⟩ rfl)<|zTk (i := 10) rfl (yw isAgg74 sizeOf74 rfl ⟨_, (.tail .head)⟩ rfl)<|zOn (i := 11) rfl<|zd (iWiden f.vars[v].ty (lv l v) (rF f l v)) rfl<|z6<|ym<|yv (i := 12) rfl (by kernel_rfl) (by kernel_rfl)<|ze sizeOf74 rfl rfl rfl rfl rfl rfl (.tail (.tail .head)) rfl<|z6<|yr (by kernel_rfl)<|zf<|yf rfl ⟨_, (.tail (.tail .head))⟩ isAgg74 sizeOf74 rfl ?_
     rw [nextR, if_neg c2, if_pos c1, hty]; rfl
    ·refine zg<|za<|z7 rfl<|z2 (yw isAgg74 sizeOf74 rfl ⟨_, .head⟩ rfl)<|z2 (yw isAgg74 sizeOf74 rfl ⟨_, (.tail .head)⟩ rfl)<|zd (iJoin _ _) rfl<|ze sizeOf74 rfl rfl rfl rfl rfl rfl (.tail (.tail .head)) rfl<|z6<|zf<|yf rfl ⟨_, (.tail (.tail .head))⟩ isAgg74 sizeOf74 rfl ?_
     rw [nextR, if_neg c2, if_neg c1]; rfl
theorem vnext_spec (f : PFunc) (hF : RuleF f) (l : List Rng) (hl : okL64 f.vars.length l) (i : Nat) (T : TypeId) (v : Nat) (hv : v < f.vars.length) (hm : 0 ≤ (makerT f v).1) (phi : Bool) (how : Int) :
  ACall Tryz.prog E 159 [viewV f (chkL f) (.own i f.vars.length), .int .i64 v, .bool phi, .int .i64 how] [(i, .grow 2 T (lC l))] (sameO i (.grow 2 T (lC l)) (.agg (encZ (nextR f l v phi how)))) := by
 rw [← lC_flat]
 refine ACall.lend (m := f.vars.length) (fun r hr => by obtain ⟨z, _, rfl⟩ := List.mem_map.1 hr; rfl) (by decide) (by rw [qq]; exact hl.1) (fun I J hle hv vs h => ?_) (fun I J v h => encZ_any h) (vnext_fro f hF l hl v hv hm phi how)
 obtain ⟨v1, us, rfl, r1, r2⟩ := h
 exact ⟨v1, us, rfl, view_lend hle hv f (chkL f) r1, r2.mono hle⟩
theorem vput_spec (f : PFunc) (hF : RuleF f) (l : List Rng) (hl : okL64 f.vars.length l) (i : Nat) (T : TypeId) (v : Nat) (hv : v < f.vars.length) (hm : 0 ≤ (makerT f v).1) (phi : Bool) (how : Int) :
  ACall Tryz.prog E 113 [viewV f (chkL f) (.own i f.vars.length), .int .i64 v, .bool phi, .int .i64 how] [(i, .grow 2 T (lC l))]
   (sameO i (.grow 2 T (lC (l.set v (nextR f l v phi how)))) (.bool (!decide (nextR f l v phi how = lv l v)))) := by
 obtain ⟨r, hr⟩ : ∃ r, nextR f l v phi how = r := ⟨_, rfl⟩
 have hnx := vnext_spec (E := E) f hF l hl i T v hv hm phi how
 rw [hr] at hnx ⊢
 have hll := hl.1
 have hlv : l[v]? = some (lv l v) := lv_get (l := l) (a := (v : Int)) (by omega)
 refine ACall.now<|zp func113 rfl (by decide) rfl<|za<|z7 rfl<|z2 (zAb rfl)<|z6<|za<|z7 rfl<|z2 (y5 (v := .pf _) rfl)<|z2 (zMi rfl)<|z2 (zMb rfl)<|z2 (zMi rfl)<|yb rfl (zu (.l (.rest _))) (hnx) ?_
 rintro r15 O15 ⟨rfl, rfl⟩
 refine zq (cs := [.int .i64 0, .int .i64 0]) zeroValue74 rfl rfl<|fun i9 => ze sizeOf74 rfl rfl rfl rfl rfl rfl .head rfl<|z6<|za<|zw (fun j => false) (by kernel_rfl) rfl (zu (.r (.r (.rest _))))<|zTk (i := 0) rfl (yw isAgg74 sizeOf74 rfl ⟨_, .head⟩ rfl)<|zTk (i := 1) rfl (y5 (v := .pf _) rfl)<|zTk (i := 2) rfl (q3 rfl)<|zTk (i := 3) rfl (zc underlying125 rfl sizeOf41 (by decide) rfl rfl)<|zTk (i := 4) rfl (q9 (c := .own _ _) isAgg41 rfl)<|zTk (i := 5) rfl (zMi rfl)<|zTk (i := 6) rfl (Gv.idxR (j := v) underlying41 sizeOf74 rfl rfl rfl ⟨_, (.tail .head)⟩ hll hv)<|zTk (i := 7) rfl (Gv.loadR (j := v) isAgg74 sizeOf74 rfl ⟨_, (.tail .head)⟩ hlv)<|zTk (i := 8) rfl (Gv.eqlP (xs := [.int _ _, .int _ _]) (ys := [.int _ _, .int _ _]) (by kernel_rfl) rfl rfl (fun w => eq_range _ _ _ _ w))<|zTk (i := 9) rfl (zAb rfl)<|zDn<|za<|zw (fun j => Nat.beq j 7) (by kernel_rfl) rfl (zu (.r (.r (.rest _))))<|zTk (i := 0) rfl (y5 (v := .pf _) rfl)<|zTk (i := 1) rfl (q3 rfl)<|zTk (i := 2) rfl (zc underlying125 rfl sizeOf41 (by decide) rfl rfl)<|zTk (i := 3) rfl (q9 (c := .own _ _) isAgg41 rfl)<|zTk (i := 4) rfl (zMi rfl)<|zTk (i := 5) rfl (yw isAgg74 sizeOf74 rfl ⟨_, .head⟩ rfl)<|zTk (i := 6) rfl (Gv.idxR (j := v) underlying41 sizeOf74 rfl rfl rfl ⟨_, (.tail .head)⟩ hll hv)<|ym<|yv (i := 7) rfl (by kernel_rfl) (by kernel_rfl)<|AOps.storeR (j := v) sizeOf74 rfl rfl (.tail .head) (by rw [hll]; exact hv)<|z6<|yr (by kernel_rfl)<|za<|z7 rfl<|z2 (zMb rfl)<|z2 (yk rfl)<|z2 (zAb rfl)<|z6<|zf<|zo (x := .bool _) rfl ?_
 exact ⟨by rw [rng_eq], .d1⟩
end Go.Proofs.YtjnpcfpecilejaaGreatDoor
namespace Go.Proofs.YtjnpcfpecilejaaGreatDoor
open Go.Proofs.Tryz
open Go.Proofs Go.Lib Go.Shelf Go.RowKit
theorem ps41_1 : PlacesS Tryz.prog 41 74 1 2 [.int .i64 0, .int .i64 0] := ⟨_, underlying41, sizeOf74, zeroValue74, by decide, by decide, by kernel_rfl⟩
variable {E : World}
set_option maxRecDepth 20000
theorem vputQ_spec (f : PFunc) (hF : RuleF f) (s : List Rng × Bool) (hl : okL64 f.vars.length s.1) (i : Nat) (T : TypeId) (q : Int × Bool) (hq : q ∈ madeL f) (how : Int) :
  ACall Tryz.prog E 113 [viewV f (chkL f) (.own i f.vars.length), .int .i64 q.1, .bool q.2, .int .i64 how] [(i, .grow 2 T (lC s.1))]
   (sameO i (.grow 2 T (lC (putS f how s q).1)) (.bool (!decide (nextR f s.1 q.1 q.2 how = lv s.1 q.1)))) := by
 obtain ⟨h0, h1, h2, _⟩ := made_of hF q hq
 have hvv : ((q.1.toNat : Nat) : Int) = q.1 := Int.toNat_of_nonneg h0
 have := vput_spec (E := E) f hF s.1 hl i T q.1.toNat (by omega) (by rw [hvv]; exact h2) q.2 how
 rw [hvv] at this
 exact this
theorem made_phi {f : PFunc} {b : PBlock} (hb : b ∈ f.blocks) {p : PPhi} (hp : p ∈ b.phis) : (p.dst, true) ∈ madeL f := mem_madeL.2 ⟨b, hb, .inl ⟨rfl, p, hp, rfl⟩⟩
theorem made_inst {f : PFunc} {b : PBlock} (hb : b ∈ f.blocks) {x : PInst} (hx : x ∈ b.insts) (h0 : 0 ≤ x.dst) : (x.dst, false) ∈ madeL f := mem_madeL.2 ⟨b, hb, .inr ⟨rfl, h0, x, hx, rfl⟩⟩
theorem put_ok {f : PFunc} (hR : Rules f.vars.length (rF f) (madeV f)) (how : Int) {s : List Rng × Bool} (h : okL64 f.vars.length s.1) {q : Int × Bool} (hq : q ∈ madeL f) : okL64 f.vars.length (putS f how s q).1 :=
 rnd_ok hR how [q] s (fun x hx => by rw [List.mem_singleton.1 hx]; exact hq) h
set_option maxHeartbeats 4000000 in
theorem vround_spec (f : PFunc) (hF : RuleF f) (hR : Rules f.vars.length (rF f) (madeV f)) (l0 : List Rng) (hl0 : okL64 f.vars.length l0) (i : Nat) (T : TypeId) (how : Int) :
  ACall Tryz.prog E 69 [viewV f (chkL f) (.own i f.vars.length), .int .i64 how] [(i, .grow 2 T (lC l0))]
   (sameO i (.grow 2 T (lC (rndS f how (madeL f) (l0, false)).1)) (.bool (rndS f how (madeL f) (l0, false)).2)) := by
 have hf := hF.small
 have hn := hf.2.2.1
 obtain ⟨z, hz⟩ : ∃ z, rndS f how (madeL f) (l0, false) = z := ⟨_, rfl⟩
 rw [hz]
 refine ACall.now<|zp func69 rfl (by decide) rfl<|za<|z7 rfl<|z2 (zAb rfl)<|z6<|za<|z7 rfl<|z2 (zAb rfl)<|z6<|za<|za<|z7 rfl<|z2 (y5 (v := .pf _) rfl)<|z2 (q3 rfl)<|z2 (zc underlying125 rfl sizeOf26 (by decide) rfl rfl)<|z2 (zc underlying26 rfl sizeOf24 (by decide) rfl rfl)<|z2 (zLf isAgg24 rfl)<|z2 (y6 underlying24 rfl)<|z2 (zMi rfl)<|z6<|zm<|ya (γ := Nat × List Rng × Bool) [0, 1, 16, 17] (fun g => [(18, .int .i64 g.1), (5, .bool g.2.2)]) (fun g => [(i, .grow 2 T (lC g.2.1))]) (fun g => g.1 ≤ f.blocks.length ∧ g.2 = rndS f how (madeTo f g.1) (l0, false) ∧ okL64 f.vars.length g.2.1) (fun g => f.blocks.length - g.1) (0, l0, false) zR2 zLe (⟨qm _, rfl, hl0⟩) ?_
 rintro ⟨k, l, c⟩ ⟨hk, hs, hl⟩
 try dsimp only at *
 refine za<|z7 rfl<|z2 (yc rfl rfl)<|z6<|za<|zn rfl (fun ck => ?_) (fun ck => ?_)
 ·have hk2 : k < f.blocks.length := by simp at ck; omega
  obtain ⟨b, hbk⟩ : ∃ b, f.blocks[k] = b := ⟨_, rfl⟩
  have hget : f.blocks[k]? = some b := by rw [qj hk2, hbk]
  have hmem : b ∈ f.blocks := hbk ▸ qn hk2
  obtain ⟨hb0, hb1, hb2, hb3, hb4⟩ := hf.2.2.2.2 b hmem
  refine zg<|za<|zm<|za<|z7 rfl<|z2 (zz (j := k) underlying24 sizeOf66 rfl rfl rfl hget)<|z2 (zj isAgg66 sizeOf66 rfl rfl)<|zq (cs := [.str ⟨#[]⟩, .raw (.slice none 0 0), .raw (.slice none 0 0), .int .i64 0, .int .i64 0, .int .i64 0, .int .i64 0]) zeroValue66 rfl rfl<|fun i7 => ze sizeOf66 rfl rfl rfl rfl rfl rfl .head rfl<|zi (yh (t := 7) rfl .head)<|z6<|za<|za<|z7 rfl<|z2 (zc underlying66 rfl sizeOf59 (by decide) rfl rfl)<|z2 (zLf isAgg59 rfl)<|z2 (y6 underlying59 rfl)<|z2 (zMi rfl)<|z6<|zm<|ya (γ := Nat × List Rng × Bool) [0, 1, 7, 16, 17, 18, 23, 24] (fun g => [(25, .int .i64 g.1), (5, .bool g.2.2)]) (fun g => [(i, .grow 2 T (lC g.2.1))]) (fun g => g.1 ≤ b.phis.length ∧ g.2 = rndS f how (madeTo f k ++ (b.phis.take g.1).map fun p => ((p.dst, true) : Int × Bool)) (l0, false) ∧ okL64 f.vars.length g.2.1) (fun g => b.phis.length - g.1) (0, l, c) zR2 zLe (⟨qm _, by rw [List.take_zero, List.map_nil, List.append_nil]; exact hs, hl⟩) ?_
  rintro ⟨j, l, c⟩ ⟨hj, hs, hl⟩
  try dsimp only at *
  refine za<|z7 rfl<|z2 (yc rfl rfl)<|z6<|za<|zn rfl (fun cj => ?_) (fun cj => ?_)
  ·have hj2 : j < b.phis.length := by simp at cj; omega
   obtain ⟨p, hp⟩ : ∃ p, b.phis[j] = p := ⟨_, rfl⟩
   have hq := made_phi hmem (hp ▸ qn hj2)
   refine zg<|za<|zm<|za<|z7 rfl<|z2 (zz (j := j) underlying59 sizeOf95 rfl rfl rfl (by rw [qj hj2, hp]))<|z2 (zj isAgg95 sizeOf95 rfl rfl)<|zq (cs := [.int .i64 0, .raw (.slice none 0 0), .raw (.slice none 0 0)]) zeroValue95 rfl rfl<|fun i9 => ze sizeOf95 rfl rfl rfl rfl rfl rfl .head rfl<|zi (yh (t := 9) rfl .head)<|z6<|yi (γ := Bool) [0, 1, 7, 16, 17, 18, 23, 24, 25] (fun u => [(5, .bool u)]) (fun u => [(i, .grow 2 T (lC (putS f how (l, c) (p.dst, true)).1))]) (fun u => u = (putS f how (l, c) (p.dst, true)).2) ?_ (fun _ _ h => h) ?_
   ·refine z7 rfl<|z2 (y5 (v := .pf _) rfl)<|z2 (zc underlying95 rfl sizeOf3 (by decide) rfl rfl)<|z2 (zLi isAgg3 rfl)<|z2 (zMi rfl)<|yb rfl (zu (.l (.rest _))) (vputQ_spec f hF (l, c) hl i T (p.dst, true) hq how) ?_
    rintro r33 O33 ⟨rfl, rfl⟩
    refine z2 (zMb rfl)<|zr (s := 34) rfl (fun c1 => ?_) (fun c1 => ?_)
    ·refine z8 rfl rfl c1<|z2 (zPt rfl c1 rfl)<|z2 (zAb rfl)<|z6 ?_
     exact ⟨_, zR9, zR1, zLe, by unfold putS; simp_all⟩
    ·refine zb rfl rfl c1<|z2 (zMb rfl)<|z2 (zPf rfl c1 rfl)<|z2 (zAb rfl)<|z6 ?_
     exact ⟨_, zR9, zR1, zLe, by unfold putS; simp_all⟩
   ·rintro u hu
    subst hu
    refine z7 rfl<|z2 (yd rfl rfl (by unfold I64; omega))<|z2 (zMi rfl)<|z6 ?_
    exact ⟨(j + 1, putS f how (l, c) (p.dst, true)), zR8, zR2, zLe, ⟨hj2, by rw [madePh_succ hj2, ← ql, rndS_snoc, ← hs, hp], put_ok hR how hl hq⟩, by dsimp only; omega⟩
  ·have hjn : j = b.phis.length := by simp at cj; omega
   subst hjn
   rw [qo] at hs
   refine y8<|za<|z7 rfl<|z2 (zc underlying66 rfl sizeOf60 (by decide) rfl rfl)<|z2 (zLf isAgg60 rfl)<|z2 (y6 underlying60 rfl)<|z2 (zMi rfl)<|z6<|zm<|ya (γ := Nat × List Rng × Bool) [0, 1, 16, 17, 18, 39, 40] (fun g => [(41, .int .i64 g.1), (5, .bool g.2.2)]) (fun g => [(i, .grow 2 T (lC g.2.1))]) (fun g => g.1 ≤ b.insts.length ∧ g.2 = rndS f how (madeTo f k ++ (madePh b ++ madeIn (b.insts.take g.1))) (l0, false) ∧ okL64 f.vars.length g.2.1) (fun g => b.insts.length - g.1) (0, l, c) zR2 zLe (⟨qm _, by rw [List.take_zero, show madeIn [] = [] from rfl, List.append_nil]; exact hs, hl⟩) ?_
   rintro ⟨m, l, c⟩ ⟨hm, hs, hl⟩
   try dsimp only at *
   refine za<|z7 rfl<|z2 (yc rfl rfl)<|z6<|za<|zn rfl (fun cm => ?_) (fun cm => ?_)
   ·have hm2 : m < b.insts.length := by simp at cm; omega
    obtain ⟨x, hx⟩ : ∃ x, b.insts[m] = x := ⟨_, rfl⟩
    have hsn := madeIn_succ hm2
    rw [hx] at hsn
    refine zg<|za<|zm<|za<|z7 rfl<|z2 (zz (j := m) underlying60 sizeOf33 rfl rfl rfl (by rw [qj hm2, hx]))<|z2 (zj isAgg33 sizeOf33 rfl rfl)<|zq (cs := [.int .i64 0, .int .i64 0, .raw (.slice none 0 0), .int .i64 0]) zeroValue33 rfl rfl<|fun i11 => ze sizeOf33 rfl rfl rfl rfl rfl rfl .head rfl<|zi (yh (t := 11) rfl .head)<|z6<|za<|z7 rfl<|z2 (zc underlying33 rfl sizeOf3 (by decide) rfl rfl)<|z2 (zLi isAgg3 rfl)<|z2 (q8 rfl rfl)<|z6<|zn rfl (fun cd => ?_) (fun cd => ?_)
    ·have hq := made_inst hmem (hx ▸ qn hm2) cd
     rw [if_pos cd] at hsn
     refine yi (γ := Bool) [0, 1, 16, 17, 18, 39, 40, 41] (fun u => [(5, .bool u)]) (fun u => [(i, .grow 2 T (lC (putS f how (l, c) (x.dst, false)).1))]) (fun u => u = (putS f how (l, c) (x.dst, false)).2) ?_ (fun _ _ h => h) ?_
     ·refine z7 rfl<|z2 (y5 (v := .pf _) rfl)<|z2 (zc underlying33 rfl sizeOf3 (by decide) rfl rfl)<|z2 (zLi isAgg3 rfl)<|z2 (zMi rfl)<|yb rfl (zu (.l (.rest _))) (vputQ_spec f hF (l, c) hl i T (x.dst, false) hq how) ?_
      rintro r52 O52 ⟨rfl, rfl⟩
      refine z2 (zMb rfl)<|zr (s := 53) rfl (fun c2 => ?_) (fun c2 => ?_)
      ·refine z8 rfl rfl c2<|z2 (zPt rfl c2 rfl)<|z2 (zAb rfl)<|z6 ?_
       exact ⟨_, zR8, zR1, zLe, by unfold putS; simp_all⟩
      ·refine zb rfl rfl c2<|z2 (zMb rfl)<|z2 (zPf rfl c2 rfl)<|z2 (zAb rfl)<|z6 ?_
       exact ⟨_, zR8, zR1, zLe, by unfold putS; simp_all⟩
     ·rintro u hu
      subst hu
      refine z7 rfl<|z2 (yd rfl rfl (by unfold I64; omega))<|z2 (zMi rfl)<|z6 ?_
      exact ⟨(m + 1, putS f how (l, c) (x.dst, false)), zR7, zR2, zLe, ⟨hm2, by rw [hsn, ← ql (madePh b), ← ql, rndS_snoc, ← hs], put_ok hR how hl hq⟩, by dsimp only; omega⟩
    ·rw [if_neg cd, List.append_nil] at hsn
     refine zg<|z7 rfl<|z2 (yd rfl rfl (by unfold I64; omega))<|z2 (zMi rfl)<|z6 ?_
     exact ⟨(m + 1, l, c), zR7, zR2, zLe, ⟨hm2, by rw [hsn]; exact hs, hl⟩, by dsimp only; omega⟩
   ·have hmn : m = b.insts.length := by simp at cm; omega
    subst hmn
    rw [qo] at hs
    refine y8<|z7 rfl<|z2 (yd rfl rfl (by unfold I64; omega))<|z2 (zMi rfl)<|z6 ?_
    exact ⟨(k + 1, l, c), zR4, zR2, zLe, ⟨hk2, by rw [madeTo_succ hk2, hbk]; exact hs, hl⟩, by dsimp only; omega⟩
 ·have hkn : k = f.blocks.length := by simp at ck; omega
  subst hkn
  rw [madeTo_all, hz] at hs
  subst hs
  refine y8<|za<|z7 rfl<|z2 (zMb rfl)<|z2 (zAb rfl)<|z6<|zf<|zo (x := .bool _) rfl ?_
  exact ⟨rfl, _, .refl _, rfl⟩
def narV (f : PFunc) (l : List Rng) : List Rng := (madeV f).foldl (narrow (rF f)) l
def narN (f : PFunc) (l : List Rng) : Nat → List Rng
 | 0 => l
 | m + 1 => narV f (narN f l m)
theorem narN_ok {f : PFunc} (hR : Rules f.vars.length (rF f) (madeV f)) {l : List Rng} (hl : okL64 f.vars.length l) : ∀ m, okL64 f.vars.length (narN f l m)
 | 0 => hl
 | m + 1 => by
  have := rnd_meet hR (madeL f) (narN f l m) false (fun _ h => h) (narN_ok hR hl m)
  rw [this.2] at this
  exact this.1
theorem vround_grow (f : PFunc) (hF : RuleF f) (hR : Rules f.vars.length (rF f) (madeV f)) (k : Nat) (i : Nat) (T : TypeId) :
  ACall Tryz.prog E 69 [viewV f (chkL f) (.own i f.vars.length), .int .i64 (if 3 ≤ k then 1 else 0)] [(i, .grow 2 T (lC (rndF f k)))] (sameO i (.grow 2 T (lC (rndF f (k + 1)))) (.bool (!decide (rndF f (k + 1) = rndF f k)))) := by
 have hg := rndF_g hR k
 have h := vround_spec (E := E) f hF hR (rndF f k) hg.ok i T (if 3 ≤ k then 1 else 0)
 obtain ⟨_, h2, h3⟩ := rnd_grow hR (made_of hF) (how := if 3 ≤ k then 1 else 0) (n := k + 1) (by unfold hows; by_cases c : 3 ≤ k; rw [if_pos c, if_pos (by omega)]; rw [if_neg c, if_neg (by omega)]) (madeL f) (rndF f k) false (fun _ h => h) hg
 have e : growA (rF f) (widF f (k + 1)) ((madeL f).map (·.1)) (rndF f k) = rndF f (k + 1) := rfl
 rw [e] at h2 h3
 rw [h2] at h
 rw [show (rndS f (if 3 ≤ k then 1 else 0) (madeL f) (rndF f k, false)).2 = !decide (rndF f (k + 1) = rndF f k) by rw [qt, h3]; simp] at h
 exact h
theorem vround_meet (f : PFunc) (hF : RuleF f) (hR : Rules f.vars.length (rF f) (madeV f)) (l : List Rng) (hl : okL64 f.vars.length l) (i : Nat) (T : TypeId) :
  ACall Tryz.prog E 69 [viewV f (chkL f) (.own i f.vars.length), .int .i64 2] [(i, .grow 2 T (lC l))] (fun y O => ∃ c : Bool, y = .bool c ∧ O = [(i, .grow 2 T (lC (narV f l)))] ∧ True) := by
 have h := vround_spec (E := E) f hF hR l hl i T 2
 have h2 := (rnd_meet hR (madeL f) l false (fun _ h => h) hl).2
 rw [h2] at h
 exact h.mono fun y O ⟨a, b⟩ => ⟨_, a, b, trivial⟩
set_option maxHeartbeats 4000000 in
theorem vOf_ok (f : PFunc) (hf : small f) (hL : Letters E) (hs : (typedB f && singB f) = true) (hR : Rules f.vars.length (rF f) (madeV f)) (K : Nat) (hK : Stops f K) :
  AFun Tryz.prog E 33 [.agg (encF f)] (.tup [.fro 2 ((endF f K).map encZ), .int .i64 0]) := by
 have hvn := hf.1
 have hF := ruleF_of hf hs
 have hty := (and3 hs).1
 have hlk := look_ok (E := E) f hf hL hs
 have hend : okL64 f.vars.length (endF f K) := (endF_post hR hK).1
 refine zp func33 rfl (by decide) rfl<|za<|z7 rfl<|y7 (cs := _) rfl rfl rfl<|z2 (y1 (v := .raw _) rfl)<|z2 (zAi rfl)<|z6<|za<|z7 rfl<|z2 (zj isAgg26 sizeOf26 rfl rfl)<|yb rfl (zu (.rest _)) (hlk) ?_
 rintro r11 O11 ⟨iv, rfl, rfl⟩
 refine z2 (y5 (v := .tup _) rfl)<|z2 (yj (v := .po _ _) rfl rfl)<|z2 (yj (v := .int _ _) rfl rfl)<|z2 (y1 (v := .po _ _) rfl)<|z2 (zAi rfl)<|z6<|za<|za<|z7 rfl<|z2 (zMi rfl)<|z2 (yq rfl rfl)<|z6<|yu rfl rfl<|zg<|za<|za<|z7 rfl<|z2 (zc underlying26 rfl sizeOf22 (by decide) rfl rfl)<|z2 (zLf isAgg22 rfl)<|z2 (y6 underlying22 rfl)<|z2 (zMi rfl)<|z6<|adoptC_wp (off := 5) (k := 2) (T := 74) (fun _ => .head) rfl<|fun jl => zm<|ya (γ := Nat × Nat) [1, 4, 19] (fun g => [(20, .int .i64 g.1)]) (fun g => [(g.2, .grow 2 74 (lC ((firstL f).take g.1))), (iv, .cells 125 (viewL f (chkL f) (.own g.2 g.1)))]) (fun g => g.1 ≤ f.vars.length) (fun g => f.vars.length - g.1) (0, jl) zR1 zLe (qm _) ?_
 rintro ⟨k, jl⟩ hk
 try dsimp only at *
 refine za<|z7 rfl<|z2 (yc rfl rfl)<|z6<|za<|zn rfl (fun ck => ?_) (fun ck => ?_)
 ·have hk2 : k < f.vars.length := by simp at ck; omega
  have hfl : ((firstL f).take k).length = k := by rw [List.length_take, firstL_len]; omega
  have hft := firstL_take hk2
  have hvf := vFirst_spec (E := E) f hf hL (k : Int)
  have hfp : firstP f (k : Int) = firstR f (k : Int) := by unfold firstP; rw [if_pos ⟨hty, by omega, by omega⟩]
  rw [hfp] at hvf
  refine zg<|za<|zm<|za<|z7 rfl<|z2 (zMi rfl)<|z2 (zAi rfl)<|z6<|za<|yi (γ := Nat) [1, 4, 6, 19, 20] (fun z => []) (fun z => [(z, .grow 2 74 (lC ((firstL f).take k ++ [noR]))), (iv, .cells 125 (viewL f (chkL f) (.own z (k + 1))))]) (fun z => True) ?_ (fun _ _ h => h) ?_
  ·refine zw (fun j => Nat.beq j 10) (by kernel_rfl) rfl (zu (.l (.r (.rest _))))<|zTk (i := 0) rfl (y5 (v := .po _ _) rfl)<|zTk (i := 1) rfl (y5 (v := .po _ _) rfl)<|zTk (i := 2) rfl (yt rfl)<|zTk (i := 3) rfl (zt underlying125 rfl sizeOf41 (by decide) rfl rfl)<|zTk (i := 4) rfl (zx (c := .own _ _) isAgg41 rfl ⟨_, .head⟩ rfl)<|zOn (i := 5) rfl<|zd (iNone) rfl<|z6<|zOn (i := 6) rfl<|y9 (rows := [[_, _]]) ps41_1 rfl rfl rfl rfl rfl<|z6<|zOn (i := 7) rfl<|yz (k := 2) underlying41 Tryz.type74 rfl rfl rfl rfl rfl (fun _ => .head) (by rw [lC_len, hfl]) (by decide) rfl (by show (_ + 1) * 16 ≤ _; omega) (by show _ + 1 ≤ _; omega)<|fun i30 => z6<|AAny.takeK (i := 8) rfl (by kernel_rfl) (by kernel_rfl) (by kernel_rfl) (by kernel_rfl) (yt rfl)<|zTk (i := 9) rfl (zt underlying125 rfl sizeOf41 (by decide) rfl rfl)<|ym<|yv (i := 10) rfl (by kernel_rfl) (by kernel_rfl)<|q0 (l := [_]) (new := [_, _, _, _, _, _]) sizeOf41 rfl rfl rfl rfl rfl rfl .head rfl rfl<|zi (zh (zl .head))<|zi (zh (zl (.tail .head)))<|z6<|yr (by kernel_rfl) ?_
   exact ⟨i30, zR5, trivial, ⟨_, (.refl _), (by rw [← lC_push]; rfl)⟩, trivial⟩
  ·rintro jz _
   refine za<|z7 rfl<|z2 (y5 (v := .po _ _) rfl)<|z2 (yt rfl)<|z2 (zt underlying125 rfl sizeOf102 (by decide) rfl rfl)<|z2 (zx (c := .fro _ _) isAgg102 rfl ⟨_, (.tail .head)⟩ rfl)<|z2 (zMi rfl)<|z2 (zz (j := k) underlying102 sizeOf109 rfl rfl rfl (makersT_get hk2))<|z2 (zc underlying109 rfl sizeOf3 (by decide) rfl rfl)<|z2 (zLi isAgg3 rfl)<|z2 (yc rfl rfl)<|z6<|zn rfl (fun cm => ?_) (fun cm => ?_)
   ·refine zw (fun j => Nat.beq j 9) (by kernel_rfl) rfl (zu (.l (.r (.rest _))))<|zTk (i := 0) rfl (y5 (v := .po _ _) rfl)<|zTk (i := 1) rfl (yt rfl)<|zTk (i := 2) rfl (zt underlying125 rfl sizeOf41 (by decide) rfl rfl)<|zTk (i := 3) rfl (zx (c := .own _ _) isAgg41 rfl ⟨_, .head⟩ rfl)<|zTk (i := 4) rfl (zMi rfl)<|zTk (i := 5) rfl (zj isAgg26 sizeOf26 rfl rfl)<|zTk (i := 6) rfl (zMi rfl)<|zOn (i := 7) rfl<|zd (hvf) rfl<|z6<|zOn (i := 8) rfl<|z2 (Gv.idxR (j := k) underlying41 sizeOf74 rfl rfl rfl ⟨_, .head⟩ (by rw [qp, hfl]; rfl) (by omega))<|z6<|ym<|yv (i := 9) rfl (by kernel_rfl) (by kernel_rfl)<|AOps.storeR (j := k) sizeOf74 rfl rfl (.tail .head) (by rw [qp, hfl]; show k < k + 1; omega)<|z6<|yr (by kernel_rfl)<|yl (zh (zl (.tail .head)))<|z7 rfl<|z2 (yd rfl rfl (by unfold I64; omega))<|z2 (zMi rfl)<|z6 ?_
    exact ⟨(k + 1, jz), zR3, zR1, ⟨_, (.refl _), by rw [hft, show first0R f (k : Int) = firstR f (k : Int) by unfold first0R; rw [if_pos cm], List.set_append_right k (firstR f k) (by omega), hfl, Nat.sub_self]; rfl⟩, hk2, by dsimp only; omega⟩
   ·refine zg<|z7 rfl<|z2 (yd rfl rfl (by unfold I64; omega))<|z2 (zMi rfl)<|z6 ?_
    exact ⟨(k + 1, jz), zR3, zR1, ⟨_, (.refl _), by rw [hft, show first0R f (k : Int) = noR by unfold first0R; rw [if_neg cm]]; try rfl⟩, hk2, by dsimp only; omega⟩
 ·have hkn : k = f.vars.length := by simp at ck; omega
  subst hkn
  rw [show (firstL f).take f.vars.length = firstL f by rw [← firstL_len f, qo]]
  refine y8<|za<|z7 rfl<|z2 (zAi rfl)<|z6<|za<|za<|z7 rfl<|z2 (zAi rfl)<|z6<|yl (yh (t := 4) rfl (.tail .head))<|zm<|ya (γ := Nat × Int) [4] (fun g => [(7, .int .i64 (if 3 ≤ g.1 then 1 else 0)), (8, .int .i64 g.2)]) (fun g => [(jl, .grow 2 74 (lC (rndF f g.1)))]) (fun g => g.1 ≤ K ∧ (g.1 < 3 → g.2 = (g.1 : Int) + 1)) (fun g => K - g.1) (0, 1) zR2 zLe (⟨qm _, fun _ => rfl⟩) ?_
  rintro ⟨m, z⟩ ⟨hm, hz⟩
  try dsimp only at *
  refine za<|za<|z7 rfl<|z2 (y5 (v := .pf _) rfl)<|z2 (zMi rfl)<|yb rfl (zu (.l (.rest _))) (vround_grow f hF hR m jl _) ?_
  rintro r54 O54 ⟨rfl, rfl⟩
  refine z6<|y4 rfl (fun cr => ?_) (fun cr => ?_)
  ·have hne : ¬ rndF f (m + 1) = rndF f m := notdecT cr
   have hm2 : m < K := by
    rcases (by omega : m < K ∨ m = K) with h | h
    ·exact h
    ·rw [h] at hne; exact absurd hK.still hne
   refine zg<|za<|yi (γ := Int) [4, 8] (fun w => [(7, .int .i64 w)]) (fun w => [(jl, .grow 2 74 (lC (rndF f (m + 1))))]) (fun w => w = if 3 ≤ m + 1 then 1 else 0) ?_ (fun _ _ h => h) ?_
   ·refine zm<|za<|z7 rfl<|z2 (zMi rfl)<|z2 (q8 rfl rfl)<|z6<|zn rfl (fun c3 => ?_) (fun c3 => ?_)
    ·refine z7 rfl<|z2 (zAi rfl)<|z6 ?_
     exact ⟨_, zR2, zR1, zLe, by split; rfl; (have := hz (by omega); omega)⟩
    ·refine zg ?_
     exact ⟨_, zR2, zR1, zLe, by by_cases h : 3 ≤ m; rw [if_pos h, if_pos (by omega)]; (have := hz (by omega); rw [if_neg h, if_neg (by omega)])⟩
   ·rintro w hw
    subst hw
    refine z7 rfl<|z2 (zMi rfl)<|z2 (Gv.addW rfl rfl)<|z2 (zAi rfl)<|z6 ?_
    exact ⟨(m + 1, IntKind.i64.wrap (z + 1)), zR1, zR2, zLe, ⟨hm2, fun h => by rw [hz (by omega)]; exact wrap_fit (by unfold is64; omega)⟩, by dsimp only; omega⟩
  ·have hst : rndF f (m + 1) = rndF f m := notdecF cr
   have hmK : m = K := by
    rcases (by omega : m < K ∨ m = K) with h | h
    ·exact absurd hst (hK.moves m h)
    ·exact h
   subst hmK
   rw [hst]
   refine y8<|za<|za<|z7 rfl<|z2 (zMi rfl)<|z6<|zm<|ya (γ := Nat) [4] (fun q => [(59, .int .i64 q)]) (fun q => [(jl, .grow 2 74 (lC (narN f (rndF f m) q)))]) (fun q => q ≤ 2) (fun q => 2 - q) 0 zR1 zLe (qm _) ?_
   rintro q hq
   refine za<|z7 rfl<|z2 (yc rfl rfl)<|z6<|za<|zn rfl (fun cq => ?_) (fun cq => ?_)
   ·refine zg<|za<|zm<|z7 rfl<|z2 (y5 (v := .pf _) rfl)<|yb rfl (zu (.l (.rest _))) (vround_meet f hF hR (narN f (rndF f m) q) (narN_ok hR (rndF_g hR m).ok q) jl _) ?_
    rintro r62 O62 ⟨c62, rfl, rfl, _⟩
    refine z6<|z7 rfl<|z2 (yd rfl rfl (by unfold I64; omega))<|z2 (zMi rfl)<|z6 ?_
    exact ⟨q + 1, zR1, zR1, zLe, by omega, by omega⟩
   ·obtain rfl : q = 2 := by omega
    refine y8<|za<|z7 rfl<|z2 (y5 (v := .pf _) rfl)<|z2 (q3 rfl)<|z2 (zc underlying125 rfl sizeOf41 (by decide) rfl rfl)<|z2 (q9 (c := .own _ _) isAgg41 rfl)<|z2 (y1 (v := .own _ _) rfl)<|z2 (zAi rfl)<|z6<|yl (GStep.knowR (t := 2) rfl .head hend.1)<|zf<|qd (x := .fro _ _) (y := .int _ _) rfl rfl ?_
    rfl
end Go.Proofs.YtjnpcfpecilejaaGreatDoor
namespace Go.Proofs.YtjnpcfpecilejaaGreatDoor
open Go.Proofs.Tryz
open Go.Proofs Go.Lib Go.Shelf Go.RowKit
variable {E : World}
set_option maxRecDepth 20000
theorem lv_nat {l : List Rng} {k : Nat} (h : k < l.length) : l[k]? = some (lv l (k : Int)) := by unfold lv; rw [show (k : Int).toNat = k from rfl, qj h]; rfl
theorem ref_spec (r : Rng) : AFun Tryz.prog E 64 [.agg (encZ r)] (.agg (encZ r)) := by
 refine zp func64 rfl (by decide) rfl<|za<|z7 rfl<|y7 (cs := _) rfl rfl rfl<|zq (cs := [.int .i64 0, .int .i64 0]) zeroValue75 rfl rfl<|fun i2 => z6<|za<|z7 rfl<|z2 (zj isAgg74 sizeOf74 rfl rfl)<|ze sizeOf75 rfl rfl rfl rfl rfl rfl .head rfl<|z6<|zf<|yf rfl ⟨_, .head⟩ isAgg75 sizeOf75 rfl ?_
 rfl
theorem refs_spec (l : List Rng) (hl : l.length ≤ 100000) : AFun Tryz.prog E 26 [.fro 2 (l.map encZ)] (.fro 2 (l.map encZ)) := by
 refine zp func26 rfl (by decide) rfl<|za<|z7 rfl<|z2 (y1 (v := .raw _) rfl)<|z6<|za<|z7 rfl<|z2 (y1 (v := .raw _) rfl)<|z6<|za<|za<|z7 rfl<|z2 (zMf rfl)<|z2 (y6 underlying41 rfl)<|z2 (zMi rfl)<|z6<|adopt_wp (t := 3) (k := 2) (T := 75) rfl<|fun i3 => zm<|ya (γ := Nat × Nat) [6, 7] (fun g => [(8, .int .i64 g.1), (3, .own g.2 g.1)]) (fun g => [(g.2, .grow 2 75 (lC (l.take g.1)))]) (fun g => g.1 ≤ l.length) (fun g => l.length - g.1) (0, i3) zR2 zLe (qm _) ?_
 rintro ⟨k, io⟩ hk
 try dsimp only at *
 refine za<|z7 rfl<|z2 (yc rfl rfl)<|z6<|za<|zn rfl (fun ck => ?_) (fun ck => ?_)
 ·have hk2 : k < l.length := by simp at ck; omega
  refine zg<|za<|zm<|za<|z7 rfl<|z2 (zz (j := k) underlying41 sizeOf74 rfl rfl rfl (lv_nat hk2))<|z2 (zj isAgg74 sizeOf74 rfl rfl)<|zq (cs := [.int .i64 0, .int .i64 0]) zeroValue74 rfl rfl<|fun i5 => ze sizeOf74 rfl rfl rfl rfl rfl rfl .head rfl<|zi (yh (t := 5) rfl .head)<|z6<|z7 rfl<|z2 (y5 (v := .own _ _) rfl)<|z2 (zj isAgg74 sizeOf74 rfl rfl)<|zd (ref_spec _) rfl<|y9 (rows := [[_, _]]) ps47_1 rfl rfl rfl rfl rfl<|yz (k := 2) underlying47 Tryz.type75 rfl rfl rfl rfl rfl (fun _ => .head) (by rw [lC_len, List.length_take]; omega) (by decide) rfl (by show (_ + 1) * 16 ≤ _; omega) (by show _ + 1 ≤ _; omega)<|fun i16 => z2 (y1 (v := .own _ _) rfl)<|z6<|z7 rfl<|z2 (yd rfl rfl (by unfold I64; omega))<|z2 (zMi rfl)<|z6 ?_
  exact ⟨(k + 1, i16), zR2, zR2, ⟨_, (.refl _), by rw [qk hk2, ← lC_push, show l[k] = lv l k by have := lv_nat hk2; rw [qj hk2] at this; exact Option.some.inj this]; rfl⟩, hk2, by dsimp only; omega⟩
 ·have hkn : k = l.length := by simp at ck; omega
  subst hkn
  rw [qo]
  refine y8<|yl (GStep.knowR (t := 3) rfl .head rfl)<|za<|z7 rfl<|z2 (zMf rfl)<|z2 (zAf rfl)<|z6<|zf<|zo (x := .fro _ _) rfl ?_
  rfl
end Go.Proofs.YtjnpcfpecilejaaGreatDoor
namespace Go.Proofs.YtjnpcfpecilejaaGreatDoor
open Go.Proofs.Tryz
open Go.Proofs
def Imp (x y : AV) : Prop := ∀ I v, RepV I x v → RepV I y v
def ImpL (xs ys : List AV) : Prop := ∀ I vs, RepL I xs vs → RepL I ys vs
theorem Imp.refl (x : AV) : Imp x x := fun _ _ h => h
theorem Imp.nil (k : Nat) : Imp (.raw (.slice none 0 0)) (.fro k []) := fun _ _ h => ⟨none, 0, 0, h, rfl, Nat.le_refl _, fun _ => rfl, trivial⟩
theorem ImpL.nil : ImpL [] [] := fun _ _ h => h
theorem ImpL.cons {x y : AV} {xs ys : List AV} (h : Imp x y) (hs : ImpL xs ys) : ImpL (x :: xs) (y :: ys) := fun I _ ⟨v, us, e, h1, h2⟩ => ⟨v, us, e, h I v h1, hs I us h2⟩
theorem Imp.agg {xs ys : List AV} (h : ImpL xs ys) : Imp (.agg xs) (.agg ys) := fun I _ ⟨vs, e, h1⟩ => ⟨vs, e, h I vs h1⟩
end Go.Proofs.YtjnpcfpecilejaaGreatDoor
namespace Go.Proofs.YtjnpcfpecilejaaGreatDoor
open Go.Proofs.Tryz
open Go.Proofs Go.Lib Go.Shelf Go.RowKit
theorem pl56 : Places Tryz.prog 56 #[(0, 1), (1, 1)] [.str ⟨#[]⟩, .int .i64 0] := ⟨_, _, underlying56, zeroValue56, fun w => by kernel_rfl, rfl⟩
theorem ps22_2 : PlacesS Tryz.prog 22 56 2 2 [.str ⟨#[]⟩, .int .i64 0, .str ⟨#[]⟩, .int .i64 0] := ⟨_, underlying22, sizeOf56, zeroValue56, by decide, by decide, by kernel_rfl⟩
theorem pl33 : Places Tryz.prog 33 #[(0, 1), (1, 1), (2, 1), (3, 1)] [.int .i64 0, .int .i64 0, .raw (.slice none 0 0), .int .i64 0] := ⟨_, _, underlying33, zeroValue33, fun w => by kernel_rfl, rfl⟩
theorem ps60_2 : PlacesS Tryz.prog 60 33 2 4 [.int .i64 0, .int .i64 0, .raw (.slice none 0 0), .int .i64 0, .int .i64 0, .int .i64 0, .raw (.slice none 0 0), .int .i64 0] := ⟨_, underlying60, sizeOf33, zeroValue33, by decide, by decide, by kernel_rfl⟩
theorem pl64 : Places Tryz.prog 64 #[(0, 1), (1, 1), (2, 2)] [.int .i64 0, .int .i64 0, .int .i64 0, .int .i64 0] := ⟨_, _, underlying64, zeroValue64, fun w => by kernel_rfl, rfl⟩
variable {E : World}
set_option maxRecDepth 20000
def lives22 : PFunc := ⟨[⟨⟨#[110]⟩, 0⟩, ⟨⟨#[109]⟩, 0⟩], [], [⟨⟨#[97]⟩, [], [⟨0, 0, [], 5⟩, ⟨2, 1, [0, 0], 0⟩], ⟨2, 1, 0, 0⟩⟩]⟩
theorem small22 : small lives22 := by unfold small lives22; simp [smallBlk]; decide
theorem sing22 : (typedB lives22 && singB lives22) = true := by decide +kernel
theorem nums22 : ∀ b ∈ lives22.blocks, ∀ x ∈ b.insts, is64 x.num := by decide
theorem stops22 : Stops lives22 1 := ⟨by decide +kernel, fun i hi => by obtain rfl : i = 0 := (by omega); decide +kernel⟩
theorem end22 : endF lives22 1 = [(5, 5), (10, 10)] := by decide +kernel
theorem lives22_spec (hL : Letters E) : AFun Tryz.prog E 32 [] (.bool true) := by
 have hF := ruleF_of small22 sing22
 have ha := vOf_ok (E := E) lives22 small22 hL sing22 (made_rules (ruleF_ok hF nums22) (made_of hF)) 1 stops22
 rw [end22] at ha
 refine zp func32 rfl (by decide) rfl<|za<|z7 rfl<|z2 (zAb rfl)<|z6<|za<|z7 rfl<|z2 (y3 (cps := [(0, [_])]) (rs := [_, .int .i64 0]) pl56 rfl rfl rfl)<|z2 (y3 (cps := [(0, [_])]) (rs := [_, .int .i64 0]) pl56 rfl rfl rfl)<|y9 (rows := [[_, _], [_, _]]) ps22_2 rfl rfl rfl rfl rfl<|z2 (y3 (cps := [(0, [_]), (1, [_]), (3, [_])]) (rs := [_, _, .raw (.slice none 0 0), _]) pl33 rfl rfl rfl)<|zi (GStep.slot (t := 7) rfl (Imp.agg (.cons (.refl _) (.cons (.refl _) (.cons (.nil 1) (.cons (.refl _) .nil))))))<|y9 (rows := [[_], [_]]) ps23_2 rfl rfl rfl rfl rfl<|z2 (y3 (cps := [(0, [_]), (1, [_]), (2, [_])]) (rs := [_, _, _, .int .i64 0]) pl33 rfl rfl rfl)<|y9 (rows := [[_, _, _, _], [_, _, _, _]]) ps60_2 rfl rfl rfl rfl rfl<|z2 (y3 (cps := [(0, [_]), (1, [_])]) (rs := [_, _, .int .i64 0, .int .i64 0]) pl64 rfl rfl rfl)<|z2 (y3 (cps := [(0, [_]), (2, [_]), (3, [_, _, _, _])]) (rs := [_, .raw (.slice none 0 0), _, _, _, _, _]) pl66 rfl rfl rfl)<|zi (GStep.slot (t := 12) rfl (Imp.agg (.cons (.refl _) (.cons (.nil 3) (.cons (.refl _) (.cons (.refl _) (.cons (.refl _) (.cons (.refl _) (.cons (.refl _) .nil)))))))))<|y9 (rows := [[_, _, _, _, _, _, _]]) ps24_1 rfl rfl rfl rfl rfl<|z2 (y3 (cps := [(0, [_]), (2, [_])]) (rs := [_, .raw (.slice none 0 0), _]) pl26 rfl rfl rfl)<|zi (GStep.slot (t := 14) rfl (Imp.agg (.cons (.refl _) (.cons (.nil 1) (.cons (.refl _) .nil)))))<|zq (cs := [.raw (.slice none 0 0), .raw (.slice none 0 0), .raw (.slice none 0 0)]) zeroValue26 rfl rfl<|fun i1 => ze sizeOf26 rfl rfl rfl rfl rfl rfl .head rfl<|zi (yh (t := 1) rfl .head)<|z6<|za<|z7 rfl<|z2 (zj isAgg26 sizeOf26 rfl rfl)<|zd (ha) rfl<|z2 (y5 (v := .tup _) rfl)<|z2 (yj (v := .fro _ _) rfl rfl)<|z2 (yj (v := .int _ _) rfl rfl)<|z2 (zAf rfl)<|z2 (zAi rfl)<|z6<|za<|z7 rfl<|z2 (zMi rfl)<|z2 (zy rfl rfl)<|z2 (zMb rfl) ?_
 refine zb rfl rfl rfl<|z2 (zMf rfl)<|zb rfl rfl rfl<|z2 (y6 underlying41 rfl)<|zb rfl rfl rfl<|z2 (zy rfl rfl)<|z2 (zPt rfl rfl rfl)<|z2 (zMb rfl)<|zb rfl rfl rfl<|z2 (zMf rfl)<|zb rfl rfl rfl<|z2 (zz (j := 1) underlying41 sizeOf74 rfl rfl rfl rfl)<|zb rfl rfl rfl<|z2 (zj isAgg74 sizeOf74 rfl rfl)<|zb rfl rfl rfl<|z2 (y3 (cps := [(0, [_]), (1, [_])]) (rs := [_, _]) pl74 rfl rfl rfl)<|zb rfl rfl rfl<|z2 (Gv.eqlP (xs := [.int _ _, .int _ _]) (ys := [.int _ _, .int _ _]) (by kernel_rfl) rfl rfl (fun w => eq_range _ _ _ _ w))<|z2 (zPt rfl rfl rfl)<|z2 (zAb rfl)<|z6<|zf<|zo (x := .bool _) rfl ?_
 rfl
theorem rangesRule_law (f : PFunc) (hw : wFunc f) (hL : Letters E) (l : List Rng) (ho : ∀ r ∈ l, ok64 r) (hl : l.length ≤ 9223372036854775807) (v : Int) : AFun Tryz.prog E 8 [.agg (encF f), .fro 2 (l.map encZ), .int .i64 v] (.bool true) := by
 have hlv := lives22_spec (E := E) hL
 have hfw := hw.1
 unfold wL at hfw
 refine zp func8 rfl (by decide) rfl<|za<|z7 rfl<|y7 (cs := _) rfl rfl rfl<|z2 (zAb rfl)<|z6<|za<|za<|z7 rfl<|zd (hlv) rfl<|z2 (yk rfl)<|z2 (zMb rfl)<|zb rfl rfl rfl<|z2 (zj isAgg26 sizeOf26 rfl rfl)<|zb rfl rfl rfl<|zd (fewT_spec f hw) rfl<|zb rfl rfl rfl<|z2 (yk rfl)<|z2 (zPf rfl rfl rfl)<|z2 (zMb rfl)<|zr (s := 20) rfl (fun cf => ?_) (fun cf => ?_)
 ·refine z8 rfl rfl cf<|z8 rfl rfl cf<|z8 rfl rfl cf<|z2 (zPt rfl cf rfl)<|z6<|yy rfl rfl<|za<|z7 rfl<|zd (hlv) rfl<|z2 (zAb rfl)<|z6<|zf<|zo (x := .bool _) rfl ?_
  rfl
 ·have hfew : fewB f = true := by cases h : fewB f; rw [h] at cf; simp at cf; rfl
  have hsm := ((fewB_iff f).1 hfew).small
  refine zb rfl rfl cf<|z2 (zMf rfl)<|zb rfl rfl cf<|z2 (y6 underlying41 rfl)<|zb rfl rfl cf<|z2 (yx rfl rfl)<|z2 (zPf rfl cf rfl)<|z6<|y4 rfl (fun cl => ?_) (fun cl => ?_)
  ·refine za<|z7 rfl<|zd (hlv) rfl<|z2 (zAb rfl)<|z6<|zf<|zo (x := .bool _) rfl ?_
   rfl
  ·have hl2 : l.length ≤ 120 := by have h : ¬ (120 : Int) < l.length := (by simpa using cl); omega
   have hvn := hsm.1
   have hTy : (fewB f && typedB f) = typedB f := by rw [hfew]; rfl
   have hSi : lawSing f = (typedB f && singB f) := by unfold lawSing; rw [hfew]; rfl
   have hru := vRule_spec f hsm hL l ho hl v (E := E)
   have hty := lawTyped_spec f hw hL (E := E)
   rw [hTy] at hty
   have hsi := lawSingle_spec f hw hL (E := E)
   rw [hSi] at hsi
   refine zg<|za<|z7 rfl<|z2 (zj isAgg26 sizeOf26 rfl rfl)<|z2 (zMi rfl)<|zd (vFirst_spec f hsm hL v) rfl<|zq (cs := [.int .i64 0, .int .i64 0]) zeroValue75 rfl rfl<|fun i7 => ze sizeOf75 rfl rfl rfl rfl rfl rfl .head rfl<|z6<|za<|za<|yi (γ := Bool) [1, 2, 3, 7] (fun u => [(42, .bool u)]) (fun u => [(i7, .cells 75 (encZ (firstP f v)))]) (fun u => u = !decide (typedB f = true ∧ 0 ≤ v ∧ v < f.vars.length)) ?_ (fun _ _ h => h) ?_
   ·refine z7 rfl<|z2 (zj isAgg26 sizeOf26 rfl rfl)<|zd (hty) rfl<|z2 (yk rfl)<|z2 (zMb rfl)<|zr (s := 32) rfl (fun c1 => ?_) (fun c1 => ?_)
    ·refine z8 rfl rfl c1<|z8 rfl rfl c1<|z2 (zPt rfl c1 rfl)<|z2 (zMb rfl)<|z8 rfl rfl rfl<|z8 rfl rfl rfl<|z8 rfl rfl rfl<|z8 rfl rfl rfl<|z8 rfl rfl rfl<|z2 (zPt rfl rfl rfl)<|z6 ?_
     exact ⟨_, zR4, zR1, zLe, by have h : typedB f = false := (by cases ht : typedB f; rfl; rw [ht] at c1; simp at c1); simp [h]⟩
    ·have h1 : typedB f = true := by cases ht : typedB f; rw [ht] at c1; simp at c1; rfl
     refine zb rfl rfl c1<|z2 (zMi rfl)<|zb rfl rfl c1<|z2 (yc rfl rfl)<|z2 (zPf rfl c1 rfl)<|z2 (zMb rfl)<|zr (s := 36) rfl (fun c2 => ?_) (fun c2 => ?_)
     ·refine z8 rfl rfl c2<|z8 rfl rfl c2<|z8 rfl rfl c2<|z8 rfl rfl c2<|z8 rfl rfl c2<|z2 (zPt rfl c2 rfl)<|z6 ?_
      exact ⟨_, zR4, zR1, zLe, by have h : v < 0 := (by simpa using c2); simp; omega⟩
     ·refine zb rfl rfl c2<|z2 (zMi rfl)<|zb rfl rfl c2<|z2 (zc underlying26 rfl sizeOf22 (by decide) rfl rfl)<|zb rfl rfl c2<|z2 (zLf isAgg22 rfl)<|zb rfl rfl c2<|z2 (y6 underlying22 rfl)<|zb rfl rfl c2<|z2 (q8 rfl rfl)<|z2 (zPf rfl c2 rfl)<|z6 ?_
      exact ⟨_, zR4, zR1, zLe, by have h : ¬ v < 0 := (by simpa using c2); rw [qt]; simp [h1]; omega⟩
   ·rintro u hu
    subst hu
    refine yi (γ := Unit) [1, 2, 3] (fun z => []) (fun z => []) (fun z => True) ?_ (fun _ _ h => h) ?_
    ·refine y4 rfl (fun c => ?_) (fun c => ?_)
     ·have hp : firstP f v = noR := by unfold firstP; rw [if_neg (notdecT c)]
      rw [hp]
      refine za<|zw (fun j => false) (by kernel_rfl) rfl (zu (.r (.rest _)))<|zTk (i := 0) rfl (yw isAgg75 sizeOf75 rfl ⟨_, .head⟩ rfl)<|zOn (i := 1) rfl<|zd (rNone) rfl<|z6<|zTk (i := 2) rfl (Gv.neqP (xs := [.int _ _, .int _ _]) (ys := [.int _ _, .int _ _]) (by kernel_rfl) rfl rfl (fun w => eq_rrange _ _ _ _ w))<|zDn<|yu rfl rfl<|yl (GStep.drop .head)<|zg ?_
      exact ⟨(), zR3, trivial, zLe, trivial⟩
     ·have hc : typedB f = true ∧ 0 ≤ v ∧ v < f.vars.length := notdecF c
      have hp : firstP f v = firstR f v := by unfold firstP; rw [if_pos hc]
      have hrf := refFirst_spec (E := E) f (typedB_shaped hc.1) hsm v.toNat (by omega)
      rw [Int.toNat_of_nonneg hc.2.1] at hrf
      rw [hp]
      refine za<|zw (fun j => false) (by kernel_rfl) rfl (zu (.r (.rest _)))<|zTk (i := 0) rfl (yw isAgg75 sizeOf75 rfl ⟨_, .head⟩ rfl)<|zTk (i := 1) rfl (zj isAgg26 sizeOf26 rfl rfl)<|zTk (i := 2) rfl (zMi rfl)<|zOn (i := 3) rfl<|zd (hrf) rfl<|z6<|zTk (i := 4) rfl (Gv.neqP (xs := [.int _ _, .int _ _]) (ys := [.int _ _, .int _ _]) (by kernel_rfl) rfl rfl (fun w => eq_rrange _ _ _ _ w))<|zDn<|yu rfl (by simp)<|yl (GStep.drop .head)<|zg ?_
      exact ⟨(), zR3, trivial, zLe, trivial⟩
    ·rintro _ _
     obtain ⟨rp, hrp⟩ : ∃ rp, ruleP f l v = rp := ⟨_, rfl⟩
     obtain ⟨rb, hrb⟩ : ∃ rb, ruleB f l v = rb := ⟨_, rfl⟩
     have hno : rb = false → rp = noR := fun h => by rw [← hrp, ruleP, hrb, h]; rfl
     rw [hrp, hrb] at hru
     refine za<|z7 rfl<|z2 (zj isAgg26 sizeOf26 rfl rfl)<|z2 (zMf rfl)<|z2 (zMi rfl)<|zd (hru) rfl<|z2 (y5 (v := .tup _) rfl)<|z2 (yj (v := .agg _) rfl rfl)<|z2 (yj (v := .bool _) rfl rfl)<|zq (cs := [.int .i64 0, .int .i64 0]) zeroValue74 rfl rfl<|fun i8 => ze sizeOf74 rfl rfl rfl rfl rfl rfl .head rfl<|z2 (zAb rfl)<|z6<|za<|z7 rfl<|z2 (yw isAgg74 sizeOf74 rfl ⟨_, .head⟩ rfl)<|zq (cs := [.int .i64 0, .int .i64 0]) zeroValue75 rfl rfl<|fun i10 => ze sizeOf75 rfl rfl rfl rfl rfl rfl .head rfl<|z6<|za<|za<|yi (γ := Bool) [1, 2, 3, 9, 10] (fun u => [(80, .bool u)]) (fun u => [(i10, .cells 75 (encZ rp)), (i8, .cells 74 (encZ rp))]) (fun u => u = !decide ((typedB f && singB f) = true ∧ l.length = f.vars.length ∧ 0 ≤ v ∧ v < f.vars.length)) ?_ (fun _ _ h => h) ?_
     ·refine z7 rfl<|z2 (zj isAgg26 sizeOf26 rfl rfl)<|zd (hsi) rfl<|z2 (yk rfl)<|z2 (zMb rfl)<|zr (s := 62) rfl (fun c1 => ?_) (fun c1 => ?_)
      ·refine z8 rfl rfl c1<|z8 rfl rfl c1<|z8 rfl rfl c1<|z8 rfl rfl c1<|z8 rfl rfl c1<|z8 rfl rfl c1<|z2 (zPt rfl c1 rfl)<|z2 (zMb rfl)<|z8 rfl rfl rfl<|z8 rfl rfl rfl<|z2 (zPt rfl rfl rfl)<|z2 (zMb rfl)<|z8 rfl rfl rfl<|z8 rfl rfl rfl<|z8 rfl rfl rfl<|z8 rfl rfl rfl<|z8 rfl rfl rfl<|z2 (zPt rfl rfl rfl)<|z6 ?_
       exact ⟨_, zR5, zR1, zLe, by have h : (typedB f && singB f) = false := (by cases ht : (typedB f && singB f); rfl; rw [ht] at c1; simp at c1); rw [h]; rfl⟩
      ·have h1 : (typedB f && singB f) = true := by cases ht : (typedB f && singB f); rw [ht] at c1; simp at c1; rfl
       refine zb rfl rfl c1<|z2 (zMf rfl)<|zb rfl rfl c1<|z2 (y6 underlying41 rfl)<|zb rfl rfl c1<|z2 (zc underlying26 rfl sizeOf22 (by decide) rfl rfl)<|zb rfl rfl c1<|z2 (zLf isAgg22 rfl)<|zb rfl rfl c1<|z2 (y6 underlying22 rfl)<|zb rfl rfl c1<|z2 (yq rfl rfl)<|z2 (zPf rfl c1 rfl)<|z2 (zMb rfl)<|zr (s := 70) rfl (fun c2 => ?_) (fun c2 => ?_)
       ·refine z8 rfl rfl c2<|z8 rfl rfl c2<|z2 (zPt rfl c2 rfl)<|z2 (zMb rfl)<|z8 rfl rfl rfl<|z8 rfl rfl rfl<|z8 rfl rfl rfl<|z8 rfl rfl rfl<|z8 rfl rfl rfl<|z2 (zPt rfl rfl rfl)<|z6 ?_
        exact ⟨_, zR5, zR1, zLe, by have h : ¬ l.length = f.vars.length := (by intro e; rw [e] at c2; simp at c2); simp [h]⟩
       ·have h2 : l.length = f.vars.length := by have h : (!decide ((l.length : Int) = (f.vars.length : Int))) = false := c2; simp at h; omega
        refine zb rfl rfl c2<|z2 (zMi rfl)<|zb rfl rfl c2<|z2 (yc rfl rfl)<|z2 (zPf rfl c2 rfl)<|z2 (zMb rfl)<|zr (s := 74) rfl (fun c3 => ?_) (fun c3 => ?_)
        ·refine z8 rfl rfl c3<|z8 rfl rfl c3<|z8 rfl rfl c3<|z8 rfl rfl c3<|z8 rfl rfl c3<|z2 (zPt rfl c3 rfl)<|z6 ?_
         exact ⟨_, zR5, zR1, zLe, by have h : v < 0 := (by simpa using c3); simp; omega⟩
        ·refine zb rfl rfl c3<|z2 (zMi rfl)<|zb rfl rfl c3<|z2 (zc underlying26 rfl sizeOf22 (by decide) rfl rfl)<|zb rfl rfl c3<|z2 (zLf isAgg22 rfl)<|zb rfl rfl c3<|z2 (y6 underlying22 rfl)<|zb rfl rfl c3<|z2 (q8 rfl rfl)<|z2 (zPf rfl c3 rfl)<|z6 ?_
         exact ⟨_, zR5, zR1, zLe, by have h : ¬ v < 0 := (by simpa using c3); rw [h1, h2, qt]; simp; omega⟩
     ·rintro u hu
      subst hu
      refine y4 rfl (fun c => ?_) (fun c => ?_)
      ·have hb : rb = false := by rw [← hrb]; unfold ruleB; cases hs : (typedB f && singB f); rfl; (rw [qx (fun h => notdecT c ⟨hs, h.1, h.2.1, h.2.2.1⟩)]; rfl)
       rw [hno hb, hb]
       refine za<|zw (fun j => false) (by kernel_rfl) rfl (zu (.r (.rest _)))<|zTk (i := 0) rfl (zMb rfl)<|zTk (i := 1) rfl (yk rfl)<|zTk (i := 2) rfl (zMb rfl)<|zTt (i := 3) rfl rfl rfl rfl (yw isAgg75 sizeOf75 rfl ⟨_, .head⟩ rfl)<|zOn (i := 4) rfl<|zb rfl rfl rfl<|zd (rNone) rfl<|z6<|zTt (i := 5) rfl rfl rfl rfl (Gv.eqlP (xs := [.int _ _, .int _ _]) (ys := [.int _ _, .int _ _]) (by kernel_rfl) rfl rfl (fun w => eq_rrange _ _ _ _ w))<|zTk (i := 6) rfl (zPt rfl rfl rfl)<|zTk (i := 7) rfl (zAb rfl)<|zDn<|zf<|zo (x := .bool _) rfl ?_
       rfl
      ·obtain ⟨h1, h2, h3, h4⟩ := notdecF c
       have hvv : ((v.toNat : Nat) : Int) = v := Int.toNat_of_nonneg h3
       have hmk := Maker_spec (E := E) f hsm v.toNat
       rw [hvv] at hmk
       refine zg<|za<|za<|z7 rfl<|z2 (zj isAgg26 sizeOf26 rfl rfl)<|z2 (zMi rfl)<|zd (hmk) rfl<|z2 (y5 (v := .tup _) rfl)<|z2 (yj (v := .int _ _) rfl rfl)<|z2 (yj (v := .int _ _) rfl rfl)<|z2 (zAi rfl)<|z2 (zAi rfl)<|z6<|za<|z7 rfl<|z2 (zMi rfl)<|z2 (yc rfl rfl)<|z6<|zn rfl (fun cm => ?_) (fun cm => ?_)
       ·have hb : rb = false := by rw [← hrb]; unfold ruleB; rw [qx (fun h => by omega), Bool.and_false]
        rw [hno hb, hb]
        refine za<|zw (fun j => false) (by kernel_rfl) rfl (zu (.r (.rest _)))<|zTk (i := 0) rfl (zMb rfl)<|zTk (i := 1) rfl (yk rfl)<|zTk (i := 2) rfl (zMb rfl)<|zTt (i := 3) rfl rfl rfl rfl (yw isAgg75 sizeOf75 rfl ⟨_, .head⟩ rfl)<|zOn (i := 4) rfl<|zb rfl rfl rfl<|zd (rNone) rfl<|z6<|zTt (i := 5) rfl rfl rfl rfl (Gv.eqlP (xs := [.int _ _, .int _ _]) (ys := [.int _ _, .int _ _]) (by kernel_rfl) rfl rfl (fun w => eq_rrange _ _ _ _ w))<|zTk (i := 6) rfl (zPt rfl rfl rfl)<|zTk (i := 7) rfl (zAb rfl)<|zDn<|zf<|zo (x := .bool _) rfl ?_
        rfl
       ·have hm : 0 ≤ (makerT f v).1 := by omega
        have hF := ruleF_of hsm h1
        have hb : rb = true := by rw [← hrb]; unfold ruleB; rw [h1, qw ⟨h2, h3, h4, hm⟩]; rfl
        have hpr : rp = ruleR f (chkV f) l v := by rw [← hrp, ruleP, hrb, hb]; rfl
        have hrr := ACall.ofEmpty (refRule_spec (E := E) f (typedB_ends (and3 h1).1) hsm hF.shaped l (Lv := (.fro 2 (l.map encZ), emptyO)) (HL := (.any, emptyO)) (i := 0) (RdL.fro underlying47 sizeOf75 isAgg75 0 emptyO l) h2 (fun u _ => lv_ok ho u) v.toNat (by omega) (by rw [hvv]; exact hm) (hF.once v.toNat (by omega)).1)
        rw [hvv, ← hpr] at hrr
        rw [hb]
        refine zg<|za<|zw (fun j => false) (by kernel_rfl) rfl (zu (.r (.rest _)))<|zTk (i := 0) rfl (zMb rfl)<|zTk (i := 1) rfl (zMb rfl)<|zTt (i := 2) rfl rfl rfl rfl (yw isAgg75 sizeOf75 rfl ⟨_, .head⟩ rfl)<|zTt (i := 3) rfl rfl rfl rfl (zj isAgg26 sizeOf26 rfl rfl)<|zTt (i := 4) rfl rfl rfl rfl (zj isAgg26 sizeOf26 rfl rfl)<|zTt (i := 6) rfl rfl rfl rfl (zMf rfl)<|zTt (i := 8) rfl rfl rfl rfl (zMi rfl)<|zOn (i := 5) rfl<|zb rfl rfl rfl<|zd (refTable_spec f (typedB_ends (and3 h1).1) hsm.2.2.1) rfl<|z6<|zOn (i := 7) rfl<|zb rfl rfl rfl<|zd (refs_spec l (by omega)) rfl<|z6<|zOn (i := 9) rfl<|zb rfl rfl rfl<|zd (hrr) rfl<|z6<|zTt (i := 10) rfl rfl rfl rfl (Gv.eqlP (xs := [.int _ _, .int _ _]) (ys := [.int _ _, .int _ _]) (by kernel_rfl) rfl rfl (fun w => eq_rrange _ _ _ _ w))<|zTk (i := 11) rfl (zPt rfl rfl rfl)<|zTk (i := 12) rfl (zAb rfl)<|zDn<|zf<|zo (x := .bool _) rfl ?_
        exact jb (by simp)
end Go.Proofs.YtjnpcfpecilejaaGreatDoor
namespace Go.Proofs.YtjnpcfpecilejaaGreatDoor
open Go.Proofs.Tryz
open Go.Proofs Go.Lib Go.Shelf Go.RowKit Go.WideShapes
set_option maxRecDepth 20000
variable {W : World}
theorem decI : Dec Tryz.prog W 3 encI (fun x => (Lit.int .i64 x).wf = true) := Dec.int underlying3
theorem decIs : Dec Tryz.prog W 23 (fun l : List Int => [.fro 1 (l.map encI)]) wL := fun en held fuel cs x h => by
 obtain ⟨l, hl, r⟩ := Dec.slice (k := 1) underlying23 decI (by kernel_rfl) (by decide) en held fuel cs x h
 exact ⟨l, hl.2, r⟩
theorem decVar : Dec Tryz.prog W 56 encVar (fun _ => True) := fun en held fuel cs x h => by
 obtain ⟨xs, n, _, _, hl, hxl, hf⟩ := DataW.trod_struct underlying56 h
 have hl : cs.length = 2 := hl.trans (by kernel_rfl)
 have hxl : xs.length = 2 := hxl
 obtain ⟨a, _, ra⟩ := qf (o := 0) (k := 1) (hf 0 _ rfl) (Dec.str underlying9) (by omega) rfl (by kernel_rfl)
 obtain ⟨b, _, rb⟩ := qf (o := 1) (k := 1) (hf 1 _ rfl) (Dec.int underlying54) (by omega) rfl (by kernel_rfl)
 exact ⟨⟨a, b⟩, trivial, q7 (o := 0) ra (q7 rb (RepL.fin hl))⟩
theorem decPhi : Dec Tryz.prog W 95 encPhi wPhi := fun en held fuel cs x h => by
 obtain ⟨xs, n, _, _, hl, hxl, hf⟩ := DataW.trod_struct underlying95 h
 have hl : cs.length = 3 := hl.trans (by kernel_rfl)
 have hxl : xs.length = 3 := hxl
 obtain ⟨a, _, ra⟩ := qf (o := 0) (k := 1) (hf 0 _ rfl) decI (by omega) rfl (by kernel_rfl)
 obtain ⟨b, hb, rb⟩ := qf (o := 1) (k := 1) (hf 1 _ rfl) decIs (by omega) rfl (by kernel_rfl)
 obtain ⟨c, hc, rc⟩ := qf (o := 2) (k := 1) (hf 2 _ rfl) decIs (by omega) rfl (by kernel_rfl)
 exact ⟨⟨a, b, c⟩, ⟨hb, hc⟩, q7 (o := 0) ra (q7 rb (q7 rc (RepL.fin hl)))⟩
def wInst (x : PInst) : Prop := wL x.args ∧ (Lit.int .i64 x.num).wf = true
theorem decInst : Dec Tryz.prog W 33 encInst wInst := fun en held fuel cs x h => by
 obtain ⟨xs, n, _, _, hl, hxl, hf⟩ := DataW.trod_struct underlying33 h
 have hl : cs.length = 4 := hl.trans (by kernel_rfl)
 have hxl : xs.length = 4 := hxl
 obtain ⟨a, _, ra⟩ := qf (o := 0) (k := 1) (hf 0 _ rfl) (Dec.int underlying31) (by omega) rfl (by kernel_rfl)
 obtain ⟨b, _, rb⟩ := qf (o := 1) (k := 1) (hf 1 _ rfl) decI (by omega) rfl (by kernel_rfl)
 obtain ⟨c, hc, rc⟩ := qf (o := 2) (k := 1) (hf 2 _ rfl) decIs (by omega) rfl (by kernel_rfl)
 obtain ⟨d, hd, rd⟩ := qf (o := 3) (k := 1) (hf 3 _ rfl) (Dec.int underlying2) (by omega) rfl (by kernel_rfl)
 exact ⟨⟨a, b, c, d⟩, ⟨hc, hd⟩, q7 (o := 0) ra (q7 rb (q7 rc (q7 rd (RepL.fin hl))))⟩
theorem decTerm : Dec Tryz.prog W 64 encTerm (fun _ => True) := fun en held fuel cs x h => by
 obtain ⟨xs, n, _, _, hl, hxl, hf⟩ := DataW.trod_struct underlying64 h
 have hl : cs.length = 4 := hl.trans (by kernel_rfl)
 have hxl : xs.length = 3 := hxl
 obtain ⟨a, _, ra⟩ := qf (o := 0) (k := 1) (hf 0 _ rfl) (Dec.int underlying61) (by omega) rfl (by kernel_rfl)
 obtain ⟨b, _, rb⟩ := qf (o := 1) (k := 1) (hf 1 _ rfl) decI (by omega) rfl (by kernel_rfl)
 obtain ⟨c, _, rc⟩ := qf (o := 2) (k := 2) (hf 2 _ rfl) (Dec.pair (k := 1) underlying62 decI (by kernel_rfl) (by kernel_rfl)) (by omega) rfl (by kernel_rfl)
 exact ⟨⟨a, b, c.1, c.2⟩, trivial, q7 (o := 0) ra (q7 rb (q7 rc (RepL.fin hl)))⟩
def NumsI (f : PFunc) : Prop := ∀ b ∈ f.blocks, ∀ x ∈ b.insts, is64 x.num
def wBlkN (b : PBlock) : Prop := wBlk b ∧ ∀ x ∈ b.insts, -9223372036854775808 ≤ x.num ∧ x.num ≤ 9223372036854775807
theorem decBlkN : Dec Tryz.prog W 66 encBlk wBlkN := fun en held fuel cs x h => by
 obtain ⟨xs, n, _, _, hl, hxl, hf⟩ := DataW.trod_struct underlying66 h
 have hl : cs.length = 7 := hl.trans (by kernel_rfl)
 have hxl : xs.length = 4 := hxl
 obtain ⟨a, _, ra⟩ := qf (o := 0) (k := 1) (hf 0 _ rfl) (Dec.str underlying9) (by omega) rfl (by kernel_rfl)
 obtain ⟨b, hb, rb⟩ := qf (o := 1) (k := 1) (hf 1 _ rfl) (Dec.slice (k := 3) underlying59 decPhi (by kernel_rfl) (by decide)) (by omega) rfl (by kernel_rfl)
 obtain ⟨c, hc, rc⟩ := qf (o := 2) (k := 1) (hf 2 _ rfl) (Dec.slice (k := 4) underlying60 decInst (by kernel_rfl) (by decide)) (by omega) rfl (by kernel_rfl)
 obtain ⟨d, _, rd⟩ := qf (o := 3) (k := 4) (hf 3 _ rfl) decTerm (by omega) rfl (by kernel_rfl)
 exact ⟨⟨a, b, c, d⟩, ⟨⟨hb.2, hc.2, hb.1, fun x hx => (hc.1 x hx).1⟩, fun x hx => by simpa [Lit.wf, IntKind.min, IntKind.max, IntKind.signed, IntKind.bits] using (hc.1 x hx).2⟩, q7 (o := 0) ra (q7 rb (q7 rc (q7 rd (RepL.fin hl))))⟩
theorem decFN : Dec Tryz.prog W 26 encF (fun f => wFunc f ∧ NumsI f) := fun en held fuel cs x h => by
 obtain ⟨xs, n, _, _, hl, hxl, hf⟩ := DataW.trod_struct underlying26 h
 have hl : cs.length = 3 := hl.trans (by kernel_rfl)
 have hxl : xs.length = 3 := hxl
 obtain ⟨a, ha, ra⟩ := qf (o := 0) (k := 1) (hf 0 _ rfl) (Dec.slice (k := 2) underlying22 decVar (by kernel_rfl) (by decide)) (by omega) rfl (by kernel_rfl)
 obtain ⟨b, hb, rb⟩ := qf (o := 1) (k := 1) (hf 1 _ rfl) decIs (by omega) rfl (by kernel_rfl)
 obtain ⟨c, hc, rc⟩ := qf (o := 2) (k := 1) (hf 2 _ rfl) (Dec.slice (k := 7) underlying24 decBlkN (by kernel_rfl) (by decide)) (by omega) rfl (by kernel_rfl)
 exact ⟨⟨a, b, c⟩, ⟨⟨ha.2, hb, hc.2, fun x hx => (hc.1 x hx).1⟩, fun x hx => (hc.1 x hx).2⟩, q7 (o := 0) ra (q7 rb (q7 rc (RepL.fin hl)))⟩
theorem decRng : Dec Tryz.prog W 74 encZ ok64 := fun en held fuel cs x h => by
 obtain ⟨xs, n, _, _, hl, hxl, hf⟩ := DataW.trod_struct underlying74 h
 have hl : cs.length = 2 := hl.trans (by kernel_rfl)
 have hxl : xs.length = 2 := hxl
 obtain ⟨a, ha, ra⟩ := qf (o := 0) (k := 1) (hf 0 _ rfl) (Dec.int underlying2) (by omega) rfl (by kernel_rfl)
 obtain ⟨b, hb, rb⟩ := qf (o := 1) (k := 1) (hf 1 _ rfl) (Dec.int underlying2) (by omega) rfl (by kernel_rfl)
 exact ⟨(a, b), ⟨by simpa [is64, Lit.wf, IntKind.min, IntKind.max, IntKind.signed, IntKind.bits] using ha, by simpa [is64, Lit.wf, IntKind.min, IntKind.max, IntKind.signed, IntKind.bits] using hb⟩, q7 (o := 0) ra (q7 rb (RepL.fin hl))⟩
theorem decRngs : Dec Tryz.prog W 41 (fun l : List Rng => [.fro 2 (l.map encZ)]) (fun l => (∀ r ∈ l, ok64 r) ∧ l.length ≤ 9223372036854775807) := fun en held fuel cs x h =>
 Dec.slice (k := 2) underlying41 decRng (by kernel_rfl) (by decide) en held fuel cs x h
theorem of_slice {H : Type} {enc : TypeId × Value → H} {held : Bool} {α : Type} {T e : TypeId} {k : Nat} {g : α → List (List AV)} {ok : α → Prop} {base : Nat} {v : Value} {d : DataW H} {p : List MemPlace} (hd : Dec Tryz.prog W T (fun a => [.fro k (g a)]) ok) (ht : Tryz.prog.underlying T = some (.slice e))
  (hv : Value.okWide Tryz.prog W .any base T v) (h : DataW.Trod enc Tryz.prog W 0 (fun _ => true) held T v d p) : ∃ a, ok a ∧ RepV (I0 W) (.fro k (g a)) v := by
 obtain ⟨a, len, cap, rfl⟩ := okWide_slice ht hv
 obtain ⟨fuel, h⟩ := h
 obtain ⟨a, h1, v, _, e, h2, h3⟩ := hd enc held fuel _ _ h
 cases e
 exact ⟨a, h1, h2⟩
theorem of_num {H : Type} {enc : TypeId × Value → H} {held : Bool} {T : TypeId} {base : Nat} {v : Value} {d : DataW H} {p : List MemPlace} (ht : Tryz.prog.underlying T = some (.int .i64))
  (hv : Value.okWide Tryz.prog W .any base T v) (h : DataW.Trod enc Tryz.prog W 0 (fun _ => true) held T v d p) : ∃ n : Int, is64 n ∧ v = .int .i64 n := by
 obtain ⟨n, rfl⟩ := okWide_int ht hv
 obtain ⟨fuel, h⟩ := h
 obtain ⟨m, h1, h2⟩ := Dec.int ht enc held fuel _ _ h
 obtain ⟨v, _, e, h2, h3⟩ := h2
 cases e
 cases h2
 exact ⟨n, by simpa [is64, Lit.wf, IntKind.min, IntKind.max, IntKind.signed, IntKind.bits] using h1, rfl⟩
theorem of_struct {H : Type} {enc : TypeId × Value → H} {held : Bool} {α : Type} {T : TypeId} {e : α → List AV} {ok : α → Prop} {fs : Array Field} {base : Nat} {v : Value} {d : DataW H} {p : List MemPlace} (hd : Dec Tryz.prog W T e ok) (ht : Tryz.prog.underlying T = some (.struct fs))
  (hv : Value.okWide Tryz.prog W .any base T v) (h : DataW.Trod enc Tryz.prog W 0 (fun _ => true) held T v d p) : ∃ a, ok a ∧ RepV (I0 W) (.agg (e a)) v := by
 obtain ⟨cs, rfl, _⟩ := okWide_struct ht hv
 obtain ⟨fuel, h⟩ := h
 obtain ⟨a, h1, h2⟩ := hd enc held fuel _ _ h
 exact ⟨a, h1, cs.toList, by simp, h2⟩
theorem xTab : RExtra Tryz.prog Tryz.lays200_ren := ⟨by kernel_rfl, by kernel_rfl, by kernel_rfl, by kernel_rfl, by kernel_rfl, by kernel_rfl, by kernel_rfl, by kernel_rfl⟩
theorem letters_of (h : Lib.VarReads Tryz.prog W "unicode.properties" (Lib.tabData .u8 Lib.propertiesTab)) (h2 : Lib.VarReads Tryz.prog W "unicode.Letter" (Lib.rtabData letterT)) : Letters W :=
 ⟨tabIs_of_reads (g := 0) (by kernel_rfl) (by kernel_rfl) underlying296 underlying5 (by kernel_rfl) (by kernel_rfl) h,
  rvar_of_reads { Tryz.lays200 with } xTab (name := "unicode.Letter") (g := 1) (by kernel_rfl) (by kernel_rfl) h2⟩
end Go.Proofs.YtjnpcfpecilejaaGreatDoor
