/- Single; plain. Of programs that are little. -/
import Derived.Test.YtbkgklpihnfnjaaGreatDoorJi
import Derived.Test.YtbkgklpihnfnjaaGreatDoorJc
import Derived.Test.YtbkgklpihnfnjaaGreatDoorJd
import Derived.Test.YtbkgklpihnfnjaaGreatDoorJf
import Derived.Test.YtbkgklpihnfnjaaGreatDoorJe
import Derived.Shelf.SlSortCmp.WholeK
import Derived.Test.YtbkgklpihnfnjaaGreatDoorJh
import Derived.LaidEqlPtr
set_option linter.unusedVariables false
set_option linter.unusedSimpArgs false
set_option linter.unusedSectionVars false
namespace Go.Proofs.YtbkgklpihnfnjaaGreatDoor
open Go.Proofs.Tryz
def lv (l : List Rng) (v : Int) : Rng := (l[v.toNat]?).getD noR
structure Rules (n : Nat) (rule : List Rng → Int → Rng) (vs : List Int) : Prop where
 mono : ∀ l l' v, l.length = n → l'.length = n → (∀ u : Int, 0 ≤ u → rSub (lv l u) (lv l' u)) → (∀ u : Int, 0 ≤ u → ok64 (lv l u)) → (∀ u : Int, 0 ≤ u → ok64 (lv l' u)) → v ∈ vs → rSub (rule l v) (rule l' v)
 ok : ∀ l v, l.length = n → (∀ u : Int, 0 ≤ u → ok64 (lv l u)) → v ∈ vs → ok64 (rule l v)
 rng : ∀ v ∈ vs, 0 ≤ v ∧ v < n
end Go.Proofs.YtbkgklpihnfnjaaGreatDoor
namespace Go.Proofs.YtbkgklpihnfnjaaGreatDoor
open Go.Proofs.Tryz
section
variable {n : Nat} {rule : List Rng → Int → Rng} {widn : Nat → Int → Option Rng} {vs : List Int} (hR : Rules n rule vs) (hw : ∀ i v t, widn i v = some t → ok64 t)
include hR hw
end
end Go.Proofs.YtbkgklpihnfnjaaGreatDoor
namespace Go.Proofs.YtbkgklpihnfnjaaGreatDoor
open Go.Proofs.Tryz
end Go.Proofs.YtbkgklpihnfnjaaGreatDoor
namespace Go.Proofs.YtbkgklpihnfnjaaGreatDoor
open Go.Proofs.Tryz
end Go.Proofs.YtbkgklpihnfnjaaGreatDoor
namespace Go.Proofs.YtbkgklpihnfnjaaGreatDoor
open Go.Proofs.Tryz
end Go.Proofs.YtbkgklpihnfnjaaGreatDoor
namespace Go.Proofs.YtbkgklpihnfnjaaGreatDoor
open Go.Proofs.Tryz
def isChk (q : Int) : Prop := 21 ≤ q ∧ q ≤ 23
instance (q : Int) : Decidable (isChk q) := by unfold isChk; infer_instance
end Go.Proofs.YtbkgklpihnfnjaaGreatDoor
namespace Go.Proofs.YtbkgklpihnfnjaaGreatDoor
open Go.Proofs.Tryz
end Go.Proofs.YtbkgklpihnfnjaaGreatDoor
namespace Go.Proofs.YtbkgklpihnfnjaaGreatDoor
open Go.Proofs.Tryz
section
variable {n : Nat} {rule : List Rng → Int → Rng} {vs : List Int} {phi : Int → Prop} {rank : Int → Nat}
end
section
variable {n : Nat} {rule : List Rng → Int → Rng} {vs : List Int} {phi : Int → Prop} {t : Int → Rng}
end
end Go.Proofs.YtbkgklpihnfnjaaGreatDoor
namespace Go.Proofs.YtbkgklpihnfnjaaGreatDoor
open Go.Proofs.Tryz
def hAdd (h : Rng × Bool) (n : Int) (fits : Bool) (e : Int) : Rng × Bool := (rJoin h.1 (rOf (if fits then n else e)), h.2 || !fits)
def h4 (h : Rng × Bool) (a b : Rng) (n : Int → Int → Int) (fit : Int → Int → Bool) (e : Int → Int → Int) : Rng × Bool :=
 hAdd (hAdd (hAdd (hAdd h (n a.1 b.1) (fit a.1 b.1) (e a.1 b.1)) (n a.1 b.2) (fit a.1 b.2) (e a.1 b.2)) (n a.2 b.1) (fit a.2 b.1) (e a.2 b.1)) (n a.2 b.2) (fit a.2 b.2) (e a.2 b.2)
instance (k : Nat) (x y : Int) : Decidable (fit3 k x y) := by unfold fit3 is64; infer_instance
instance (k : Nat) (a b : Rng) : Decidable (cornF k a b) := by unfold cornF; infer_instance
end Go.Proofs.YtbkgklpihnfnjaaGreatDoor
namespace Go.Proofs.YtbkgklpihnfnjaaGreatDoor
open Go.Proofs.Tryz
open Go.Proofs
def encZ (r : Rng) : List AV := [.int .i64 r.1, .int .i64 r.2]
end Go.Proofs.YtbkgklpihnfnjaaGreatDoor
namespace Go.Proofs.YtbkgklpihnfnjaaGreatDoor
open Go.Proofs.Tryz
open Go.Proofs
end Go.Proofs.YtbkgklpihnfnjaaGreatDoor
namespace Go.Proofs.YtbkgklpihnfnjaaGreatDoor
open Go.Proofs.Tryz
structure GS where
 ints : List Int
 bools : List Bool
 arrs : List Int
 arrays : List (List Int)
 blk : Int
 pc : Nat
 en : Int
 val : Int
 tr : Int
 trace : List Int
 st : Nat
 ck : Nat → Nat
 ended : Bool
def vi (l : List Int) (v : Int) : Int := (l[v.toNat]?).getD 0
def stI (s : GS) (d v : Int) : GS := { s with ints := s.ints.set d.toNat v }
def stB (s : GS) (d : Int) (v : Bool) : GS := { s with bools := s.bools.set d.toNat v }
def stA (s : GS) (d v : Int) : GS := { s with arrs := s.arrs.set d.toNat v }
def phiAt (p : PPhi) (b : Int) : Int := ((p.from_.zip p.args).find? fun q => decide (q.1 = b)).elim (-1) (·.2)
def assign (s t : GS) (p : PPhi) : GS := stA (stB (stI t p.dst (vi s.ints (phiAt p s.blk))) p.dst (gb s.bools (phiAt p s.blk))) p.dst (vi s.arrs (phiAt p s.blk))
theorem has_lt {f : PFunc} {v : Int} (h : hasV f v = true) : v < f.vars.length ∧ 0 ≤ v := by
 unfold hasV at h; simp at h; exact ⟨h.2, h.1⟩
theorem takesN : ∀ j : Nat, j < 27 → (takesL (j : Int)).length = ([0, 1, 2, 2, 2, 2, 2, 2, 2, 2, 1, 2, 1, 2, 3, 1, 0, 1, 2, 1, 1, 2, 2, 2, 1, 2, 2][j]?).getD 0 := by decide
theorem InstF.argc {f : PFunc} {x : PInst} (h : InstF f x) : x.args.length = ([0, 1, 2, 2, 2, 2, 2, 2, 2, 2, 1, 2, 1, 2, 3, 1, 0, 1, 2, 1, 1, 2, 2, 2, 1, 2, 2][x.op.toNat]?).getD 0 := by
 have h1 := h.op
 obtain ⟨j, e⟩ : ∃ j : Nat, x.op = (j : Int) := ⟨x.op.toNat, by omega⟩
 rw [h.len, e, takesN j (by omega), Int.toNat_natCast]
end Go.Proofs.YtbkgklpihnfnjaaGreatDoor
namespace Go.Proofs.YtbkgklpihnfnjaaGreatDoor
open Go.Proofs.Tryz
open Go.Proofs Go.Lib
theorem blkX_mem {f : PFunc} {x : Int} (h0 : 0 ≤ x) (h1 : x < f.blocks.length) : blkX f x ∈ f.blocks := by
 unfold blkX
 rw [qd (by omega)]
 exact qh _
theorem prs_len {p : PPhi} (h : p.from_.length = p.args.length) : (prs p).length = p.args.length := by unfold prs; rw [List.length_zip, h]; omega
theorem prs_arg {p : PPhi} (h : p.from_.length = p.args.length) {a : Int} (ha : a ∈ p.args) : ∃ x, (x, a) ∈ prs p := by
 obtain ⟨i, hi, rfl⟩ := List.getElem_of_mem ha
 refine ⟨p.from_[i], qm (i := i) ?_⟩
 unfold prs
 rw [List.getElem?_zip_eq_some]
 exact ⟨qd (by omega), qd hi⟩
theorem prs_from {p : PPhi} (h : p.from_.length = p.args.length) {x : Int} (ha : x ∈ p.from_) : ∃ a, (x, a) ∈ prs p := by
 obtain ⟨i, hi, rfl⟩ := List.getElem_of_mem ha
 refine ⟨p.args[i]'(by omega), qm (i := i) ?_⟩
 unfold prs
 rw [List.getElem?_zip_eq_some]
 exact ⟨qd hi, qd (by omega)⟩
theorem insM_dst {ν : Int → Int} {x : PInst} : (insM ν x).dst = if 0 ≤ x.dst then ν x.dst else x.dst := rfl
theorem kinds_map {V : Int → Prop} {ν : Int → Int} {f g : PFunc} (hv : ∀ v, V v → kindV g (ν v) = kindV f v) : ∀ {l : List Int}, (∀ v ∈ l, V v) → (l.map ν).map (kindV g) = l.map (kindV f) := fun {l} hl => by
 rw [List.map_map]
 exact List.map_congr_left fun v h => hv v (hl v h)
section
variable {R V : Int → Prop} {β ν : Int → Int} {f g : PFunc} (h : Like R V β ν f g) (hS : ShapedP f) (hV : ∀ v, V v → hasV g (ν v) = true)
include h hS hV
theorem Like.blkP (hk : ∀ x, R x → ∀ p ∈ (blkX f x).phis, ∃ z ∈ prs p, R z.1) : ∀ c ∈ g.blocks, BlkP g c ∧ ∃ x, R x ∧ c = blkX g (β x) := fun c hc => by
 obtain ⟨y, hy, rfl⟩ := List.getElem_of_mem hc
 obtain ⟨x, hx, e⟩ := h.onto y (by omega) (by omega)
 have ec : g.blocks[y] = blkX g (β x) := by rw [e]; exact (blkX_get (qd hy)).symm
 refine ⟨?_, x, hx, ec⟩
 rw [ec]
 have hr := h.rng x hx
 have hb := h.blk x hx
 obtain ⟨s1, s2, s3⟩ := hS.2.2.2.2.2 _ (blkX_mem hr.1.1 hr.1.2)
 have hB : ∀ {z : Int}, R z → hasB g (β z) = true := fun {z} hz => by
  have := (h.rng z hz).2
  unfold hasB; simp [this.1, this.2]
 refine ⟨fun q hq => ?_, fun z hz => ?_, ?_⟩
 ·obtain ⟨i, hi, rfl⟩ := List.getElem_of_mem hq
  have hi2 : i < (blkX f x).phis.length := by rw [← hb.nphi]; exact hi
  obtain ⟨d1, d2, d3, k, k1, k2, k3, k4⟩ := hb.phi i _ _ (qd hi2) (qd hi)
  obtain ⟨w, hw, hwr⟩ := hk x hx _ (qh hi2)
  have hkl : 0 < k.length := List.length_pos_of_mem ((k1 w).2 ⟨hw, hwr⟩)
  have hl := k4.length_eq
  rw [prs_len d3, qk] at hl
  refine ⟨by rw [d1]; exact hV _ d2, d3.symm, by omega, ?_, ?_⟩
  ·rw [List.all_eq_true]
   intro a ha
   obtain ⟨t, ht⟩ := prs_arg d3 ha
   obtain ⟨z, hz, e⟩ := List.mem_map.1 (k4.mem_iff.1 ht)
   rw [← (Prod.mk.inj e).2]
   exact hV _ (k3 z hz)
  ·rw [List.all_eq_true]
   intro a ha
   obtain ⟨t, ht⟩ := prs_from d3 ha
   obtain ⟨z, hz, e⟩ := List.mem_map.1 (k4.mem_iff.1 ht)
   rw [← (Prod.mk.inj e).1]
   exact hB ((k1 z).1 hz).2
 ·rw [hb.insts] at hz
  obtain ⟨x', hx', rfl⟩ := List.mem_map.1 hz
  obtain ⟨x1, x2, x3, x4⟩ := s2 x' hx'
  have hiv := hb.instv x' hx'
  refine ⟨x1, x2, ?_, ?_⟩
  ·unfold bad2 at x3 ⊢
   rw [show (insM ν x').args.length = x'.args.length from qk .., insM_dst]
   by_cases h0 : 0 ≤ x'.dst
   ·have hd : V x'.dst := hiv _ (by unfold instVars; rw [if_pos h0]; simp)
    have h1 := hV _ hd
    have h2 : 0 ≤ ν x'.dst := (h.vty _ hd).2.1
    rw [if_pos h0, h1, show decide (ν x'.dst = -1) = false from qr (by omega)]
    rw [show decide (x'.dst = -1) = false from qr (by omega)] at x3
    simp only [Bool.or_eq_false_iff] at x3 ⊢
    exact ⟨x3.1, x3.2.1, by simp, x3.2.2.2⟩
   ·rw [if_neg h0]
    by_cases h1 : x'.dst = -1
    ·rw [qq h1] at x3 ⊢; exact x3
    ·rw [qr h1] at x3
     simp only [Bool.or_eq_false_iff] at x3
     have := x3.2.2.1
     rw [show hasV f x'.dst = false by unfold hasV; simp [h0]] at this
     cases this
  ·rw [List.all_eq_true]
   intro a ha
   obtain ⟨v, hv, rfl⟩ := List.mem_map.1 ha
   exact hV _ (hiv v (List.mem_append_left _ hv))
 ·rw [hb.term]
  have hend : ∀ c ∈ endsL (blkX f x).term, R c := by rw [← ends_at hr.1.1 hr.1.2]; exact h.cl x hx
  have htv := hb.termv
  generalize (blkX f x).term = t at s3 hend htv
  unfold termOK at s3 ⊢
  unfold endsL at hend
  unfold termVars at htv
  unfold trmM
  by_cases h0 : t.kind = 0
  ·rw [if_pos h0] at s3 hend ⊢
   dsimp only
   rw [if_pos h0]
   simp only [qs] at s3 ⊢
   exact ⟨⟨hB (hend _ (.head _)), s3.1.2⟩, s3.2⟩
  ·rw [if_neg h0] at s3 hend htv ⊢
   have hv := hV _ (htv _ (.head _))
   by_cases h1 : t.kind = 1
   ·rw [if_pos h1] at s3 hend ⊢
    dsimp only
    rw [if_neg h0, if_pos h1]
    simp only [qs] at s3 ⊢
    have e0 := hB (hend t.to0 (by split <;> simp))
    refine ⟨⟨hv, e0⟩, ?_⟩
    by_cases e : t.to0 = t.to1
    ·rw [← e]; exact e0
    ·exact hB (hend _ (by rw [if_neg e]; simp))
   ·rw [if_neg h1] at s3 ⊢
    dsimp only
    rw [if_neg h0, if_neg h1]
    by_cases h2 : t.kind = 2
    ·rw [if_pos h2] at s3 ⊢
     simp only [qs] at s3 ⊢
     exact ⟨hv, s3.2⟩
    ·rw [if_neg h2] at s3; cases s3
theorem Like.typed (hk : ∀ x, R x → ∀ p ∈ (blkX f x).phis, ∃ z ∈ prs p, R z.1) (hT : typedB f = true) (h1 : bad1 g = false) (h2 : ∀ i (h : i < g.params.length), g.params[i] = (i : Int)) (h3 : ∀ i (h : i < g.vars.length), VarP g i g.vars[i]) (h4 : ∀ i (h : i < g.blocks.length), NamP g i g.blocks[i]) (h5 : sumTo g.blocks ≤ 1024) : typedB g = true := by
 have hb := h.blkP hS hV hk
 unfold typedB
 rw [shapedB_eq, qq (p := ShapedP g) ⟨h1, h2, h3, h4, h5, fun c hc => (hb c hc).1⟩, Bool.true_and, List.all_eq_true]
 intro c hc
 obtain ⟨_, x, hx, ec⟩ := hb c hc
 rw [ec]
 have hr := h.rng x hx
 have hl := h.blk x hx
 have hm := blkX_mem hr.1.1 hr.1.2
 obtain ⟨s1, s2, s3⟩ := hS.2.2.2.2.2 _ hm
 have ht := List.all_eq_true.1 (show f.blocks.all (blkT f) = true by unfold typedB at hT; rw [qs] at hT; exact hT.2) _ hm
 have hty : ∀ v, V v → kindV g (ν v) = kindV f v := fun v hv => (h.vty v hv).2.2
 unfold blkT at ht ⊢
 simp only [qs] at ht ⊢
 obtain ⟨⟨t1, t2⟩, t3⟩ := ht
 rw [List.all_eq_true] at t1 t2
 refine ⟨⟨?_, ?_⟩, ?_⟩
 ·rw [List.all_eq_true]
  intro q hq
  obtain ⟨i, hi, rfl⟩ := List.getElem_of_mem hq
  have hi2 : i < (blkX f x).phis.length := by rw [← hl.nphi]; exact hi
  obtain ⟨d1, d2, d3, k, k1, k2, k3, k4⟩ := hl.phi i _ _ (qd hi2) (qd hi)
  have g := t1 _ (qh hi2)
  unfold phiT at g ⊢
  rw [Bool.not_eq_true', List.any_eq_false] at g ⊢
  intro a ha
  obtain ⟨t, ht⟩ := prs_arg d3 ha
  obtain ⟨z, hz, e⟩ := List.mem_map.1 (k4.mem_iff.1 ht)
  rw [← (Prod.mk.inj e).2, d1, hty _ (k3 z hz), hty _ d2]
  exact g z.2 (List.of_mem_zip ((k1 z).1 hz).1).2
 ·rw [hl.insts, List.all_eq_true]
  intro z hz
  obtain ⟨x', hx', rfl⟩ := List.mem_map.1 hz
  have gg := t2 x' hx'
  have hiv := hl.instv x' hx'
  have hF := instP_F (s2 x' hx')
  have hd : 0 ≤ x'.dst → kindV g (insM ν x').dst = kindV f x'.dst := fun h0 => by
   rw [insM_dst, if_pos h0]
   exact hty _ (hiv _ (by unfold instVars; rw [if_pos h0]; simp))
  have hargs : ∀ v ∈ x'.args, V v := fun v hv => hiv v (List.mem_append_left _ hv)
  unfold instT at gg ⊢
  show (if x'.op = 1 then decide (kindV _ (insM ν x').dst = kindV _ ((x'.args.map ν).headD 0)) else decide ((x'.args.map ν).map (kindV _) = takesL x'.op) && (!makesB x'.op || decide (kindV _ (insM ν x').dst = makesT x'.op))) = true
  rw [kinds_map hty hargs]
  have hmk : makesB x'.op = true → 0 ≤ x'.dst := fun hm => by
   rcases hF.dst with ⟨h2, _⟩ | ⟨_, _, h2⟩
   ·rw [h2] at hm; cases hm
   ·exact (has_lt h2).2
  split
  ·rename_i e
   rw [if_pos e] at gg
   have hl := hF.argc
   rw [e] at hl
   rw [hd (hmk (by rw [e]; decide))]
   match hxa : x'.args, hl with
   | [a], _ =>
    rw [hxa] at gg
    show decide (kindV f x'.dst = kindV _ (ν a)) = true
    rw [hty a (hargs a (by rw [hxa]; exact .head _))]
    exact gg
  ·rename_i e
   rw [if_neg e] at gg
   simp only [qs, Bool.or_eq_true] at gg ⊢
   refine ⟨gg.1, ?_⟩
   rcases gg.2 with k | k
   ·exact .inl k
   ·by_cases hmm : makesB x'.op = true
    ·right; rw [hd (hmk hmm)]; exact k
    ·left; simpa using hmm
 ·rw [hl.term]
  have htv := hl.termv
  have hend : ∀ c ∈ endsL (blkX f x).term, R c := by rw [← ends_at hr.1.1 hr.1.2]; exact h.cl x hx
  generalize (blkX f x).term = t at t3 hend htv
  have hne : ∀ c, R c → ¬ c = 0 → ¬ β c = 0 := fun c hc hn e => hn (h.inj c 0 hc h.r0 (by rw [e, h.b0]))
  unfold termT at t3 ⊢
  unfold endsL at hend
  unfold termVars at htv
  unfold trmM
  by_cases h0 : t.kind = 0
  ·rw [if_pos h0] at t3 hend ⊢
   dsimp only
   rw [if_pos h0]
   simp only [Bool.not_eq_true', decide_eq_false_iff_not] at t3 ⊢
   exact hne _ (hend _ (.head _)) t3
  ·rw [if_neg h0] at t3 hend htv ⊢
   have hv := hty _ (htv _ (.head _))
   by_cases h1 : t.kind = 1
   ·rw [if_pos h1] at t3 hend ⊢
    dsimp only
    rw [if_neg h0, if_pos h1]
    simp only [qs, Bool.not_eq_true', decide_eq_false_iff_not] at t3 ⊢
    refine ⟨⟨by rw [hv]; exact t3.1.1, hne _ (hend t.to0 (by split <;> simp)) t3.1.2⟩, ?_⟩
    by_cases e : t.to0 = t.to1
    ·rw [← e]; exact hne _ (hend t.to0 (by split <;> simp)) t3.1.2
    ·exact hne _ (hend _ (by rw [if_neg e]; simp)) t3.2
   ·rw [if_neg h1] at t3 ⊢
    dsimp only
    rw [if_neg h0, if_neg h1, hv]; exact t3
omit h hS hV in
theorem hits_iff {R : Int → Prop} {β : Int → Int} (hi : ∀ x y, R x → R y → β x = β y → x = y) {l : List Int} (hl : ∀ c ∈ l, R c) {x : Int} (hx : R x) : β x ∈ l.map β ↔ x ∈ l := by
 rw [List.mem_map]
 exact ⟨fun ⟨c, hc, e⟩ => hi c x (hl c hc) hx e ▸ hc, fun h => ⟨x, h, rfl⟩⟩
omit hS hV in
theorem Like.joined (hD : ∀ x, R x → ∀ p ∈ (blkX f x).phis, DistP p) (hP : ∀ x, R x → ∀ p ∈ (blkX f x).phis, p.from_.length = p.args.length) (hJ : JoinP f) : JoinP g := fun y hy q hq => by
 obtain ⟨x, hx, e⟩ := h.onto y (by omega) (by omega)
 have ec : g.blocks[y] = blkX g (β x) := by rw [e]; exact (blkX_get (qd hy)).symm
 rw [ec] at hq
 have hr := h.rng x hx
 have hb := h.blk x hx
 obtain ⟨i, hi, rfl⟩ := List.getElem_of_mem hq
 have hi2 : i < (blkX f x).phis.length := by rw [← hb.nphi]; exact hi
 have hpm := qh hi2
 obtain ⟨d1, d2, d3, k, k1, k2, k3, k4⟩ := hb.phi i _ _ (qd hi2) (qd hi)
 have hpn := hD x hx _ hpm
 have hj : (blkX f x).phis[i].from_.Perm (predsT (EndsOf f) f.blocks.length x) := by
  have hxl : x.toNat < f.blocks.length := by omega
  have := hJ x.toNat hxl (blkX f x).phis[i] (by
   have e : f.blocks[x.toNat] = blkX f x := by unfold blkX; rw [qd hxl]; rfl
   rw [e]; exact hpm)
  rwa [qt hr.1.1] at this
 have hG := h.okg.grph
 have hF := h.okf.grph
 rw [← e]
 have efst : ∀ {p : PPhi}, p.from_.length = p.args.length → (prs p).map (·.1) = p.from_ := fun {p} hp => by
  unfold prs
  rw [List.map_fst_zip (by omega)]
 refine (List.perm_ext_iff_of_nodup ?_ (predsT_nodup (fun b=>?_) _ _).1).2 fun c=>?_
 ·rw [← efst d3]
  refine (k4.map (·.1)).nodup_iff.2 ?_
  rw [List.map_map]
  have hkn : (k.map (·.1)).Nodup := (k2.map _).nodup hpn
  have : ∀ l : List (Int × Int), (∀ z ∈ l, R z.1) → (l.map (·.1)).Nodup → (l.map ((fun z : Int × Int => z.1) ∘ fun z => (β z.1, ν z.2))).Nodup := by
   intro l
   induction l with
   | nil => intro _ _; simp
   | cons z l ih =>
    intro h1 h2
    rw [List.map_cons, List.nodup_cons] at h2 ⊢
    refine ⟨fun hm=>?_, ih (fun z hz => h1 z (.tail _ hz)) h2.2⟩
    obtain ⟨w, hw, e⟩ := List.mem_map.1 hm
    exact h2.1 (List.mem_map.2 ⟨w, hw, h.inj _ _ (h1 w (.tail _ hw)) (h1 z (.head _)) e⟩)
  exact this k (fun z hz => ((k1 z).1 hz).2) hkn
 ·exact EndsOf_nodup g b
 ·rw [mem_predsT hG.toEOk hG.out, ← efst d3, (k4.map (·.1)).mem_iff, List.map_map, List.mem_map]
  constructor
  ·rintro ⟨z, hz, e2⟩
   have e2 : β z.1 = c := e2
   obtain ⟨z1, z2⟩ := (k1 z).1 hz
   rw [← e2, h.leads z2, hits_iff h.inj (h.cl _ z2) hx]
   exact (mem_predsT hF.toEOk hF.out).1 (hj.mem_iff.1 (by rw [← efst (hP x hx _ hpm)]; exact List.mem_map_of_mem z1))
  ·intro hc
   by_cases hcr : 0 ≤ c ∧ c < g.blocks.length
   ·obtain ⟨w, hw, rfl⟩ := h.onto c hcr.1 hcr.2
    rw [h.leads hw, hits_iff h.inj (h.cl _ hw) hx] at hc
    have := hj.mem_iff.2 ((mem_predsT hF.toEOk hF.out).2 hc)
    rw [← efst (hP x hx _ hpm)] at this
    obtain ⟨z, hz, e3⟩ := List.mem_map.1 this
    exact ⟨z, (k1 z).2 ⟨hz, by rw [e3]; exact hw⟩, by show β z.1 = _; rw [e3]⟩
   ·rw [hG.out c hcr] at hc; cases hc
end
end Go.Proofs.YtbkgklpihnfnjaaGreatDoor
namespace Go.Proofs.YtbkgklpihnfnjaaGreatDoor
open Go.Proofs.Tryz
open Go.Proofs Go.Lib
theorem typedS {f : PFunc} (h : typedB f = true) : ShapedP f := by
 unfold typedB at h
 rw [qs, shapedB_eq] at h
 exact of_decide_eq_true h.1
theorem typedE {f : PFunc} (h : typedB f = true) : EndsOk f := (typedS h).ends
theorem fst_prs {p : PPhi} (h : p.from_.length = p.args.length) : (prs p).map (·.1) = p.from_ := by unfold prs; rw [List.map_fst_zip (by omega)]
section
variable {f : PFunc}
theorem blkX_eq {x : Int} (h0 : 0 ≤ x) (h1 : x < f.blocks.length) : f.blocks[x.toNat]'(by omega) = blkX f x := by unfold blkX; rw [qd (by omega)]; rfl
theorem phi_preds (hJ : JoinP f) {x : Int} (h0 : 0 ≤ x) (h1 : x < f.blocks.length) {p : PPhi} (hp : p ∈ (blkX f x).phis) : p.from_.Perm (predsT (EndsOf f) f.blocks.length x) := by
 have := hJ x.toNat (by omega) p (by rw [blkX_eq h0 h1]; exact hp)
 rwa [qt h0] at this
theorem phi_shape (hS : ShapedP f) {x : Int} (h0 : 0 ≤ x) (h1 : x < f.blocks.length) {p : PPhi} (hp : p ∈ (blkX f x).phis) : PhiP f p := (hS.2.2.2.2.2 _ (blkX_mem h0 h1)).1 p hp
theorem phi_dist (hS : ShapedP f) (hJ : JoinP f) {x : Int} (h0 : 0 ≤ x) (h1 : x < f.blocks.length) {p : PPhi} (hp : p ∈ (blkX f x).phis) : DistP p := by
 unfold DistP
 rw [fst_prs (phi_shape hS h0 h1 hp).2.1.symm]
 exact (phi_preds hJ h0 h1 hp).nodup_iff.2 (predsT_nodup (fun b => EndsOf_nodup f b) _ _).1
theorem no_start (hT : typedB f = true) {x : Int} : (0 : Int) ∉ EndsOf f x := fun hm => by
 have hG := (typedE hT).grph
 by_cases hx : 0 ≤ x ∧ x < f.blocks.length
 ·have ht : termT f (blkX f x).term = true := by
   have h2 : f.blocks.all (blkT f) = true := by unfold typedB at hT; rw [qs] at hT; exact hT.2
   have := List.all_eq_true.1 h2 _ (blkX_mem hx.1 hx.2)
   unfold blkT at this
   simp only [qs] at this
   exact this.2
  rw [ends_at hx.1 hx.2] at hm
  generalize (blkX f x).term = t at hm ht
  unfold endsL at hm
  unfold termT at ht
  by_cases h0 : t.kind = 0
  ·rw [if_pos h0] at hm ht
   have := List.mem_singleton.1 hm
   rw [← this] at ht; simp at ht
  ·rw [if_neg h0] at hm ht
   by_cases h1 : t.kind = 1
   ·rw [if_pos h1] at hm ht
    simp only [qs, Bool.not_eq_true', decide_eq_false_iff_not] at ht
    split at hm
    ·exact ht.1.2 (List.mem_singleton.1 hm).symm
    ·rcases List.mem_cons.1 hm with e | e
     ·exact ht.1.2 e.symm
     ·exact ht.2 (List.mem_singleton.1 e).symm
   ·rw [if_neg h1] at hm; cases hm
 ·rw [hG.out x hx] at hm; cases hm
theorem phi_reached (hT : typedB f = true) (hJ : JoinP f) {x : Int} (hx : x ∈ ord f) {p : PPhi} (hp : p ∈ (blkX f x).phis) : ∃ z ∈ prs p, z.1 ∈ ord f := by
 have hS := typedS hT
 have hE := typedE hT
 have hG := hE.grph
 have hr := order_rng hG.toEOk hx
 have hs := phi_shape hS hr.1 hr.2 hp
 have hj := phi_preds hJ hr.1 hr.2 hp
 have hne : x ≠ 0 := fun e => by
  have hl : 0 < p.from_.length := by have := hs.2.1; have := hs.2.2.1; omega
  have hm := hj.mem_iff.1 (qh hl)
  have := (mem_predsT hG.toEOk hG.out).1 hm
  rw [e] at this
  exact no_start hT this
 obtain ⟨k, hk⟩ := List.getElem?_of_mem hx
 obtain ⟨j, y, _, hy, hyx⟩ := order_led hG.toEOk k x hk hne
 have hyo : y ∈ ord f := qm hy
 obtain ⟨a, ha⟩ := prs_from hs.2.1.symm (hj.mem_iff.2 ((mem_predsT hG.toEOk hG.out).2 hyx))
 exact ⟨_, ha, hyo⟩
theorem names_ne (hS : ShapedP f) {a b : Nat} (ha : a < f.blocks.length) (hb : b < f.blocks.length) (h : a ≠ b) : f.blocks[a].name ≠ f.blocks[b].name := by
 have aux : ∀ {a b : Nat} (hb : b < f.blocks.length) (h : a < b), (f.blocks[a]'(by omega)).name ≠ f.blocks[b].name := fun {a b} hb h => by
  refine (hS.2.2.2.1 b hb).2 _ (List.mem_map.2 ⟨f.blocks[a], ?_, Z⟩)
  refine qm (i := a) ?_
  rw [List.getElem?_take, if_pos h, qd]
 rcases Nat.lt_or_gt_of_ne h with k | k
 ·exact aux hb k
 ·exact fun e => aux ha k e.symm
theorem sum_sub {g : Nat → Nat} {l m : List Nat} (h : List.Sublist l m) : (l.map g).sum ≤ (m.map g).sum := by
 induction h with
 | slnil => exact Nat.le_refl _
 | cons a _ ih => rw [List.map_cons, List.sum_cons]; omega
 | cons_cons a _ ih => rw [List.map_cons, List.map_cons, List.sum_cons, List.sum_cons]; omega
theorem prune_typed (hT : typedB f = true) (hJ : JoinP f) : typedB (pruneF f) = true ∧ JoinP (pruneF f) := by
 have hS := typedS hT
 have hE := typedE hT
 have h := prune_like hE hS hJ
 have hl : (pruneF f).blocks.length = (rlL f).length := qk ..
 have hle : (rlL f).length ≤ f.blocks.length := by
  have := List.length_filter_le (fun b : Nat => decide ((b : Int) ∈ ord f)) (List.range f.blocks.length)
  rw [List.length_range] at this; exact this
 have hpos := (prune_ends hE).pos
 have hrl : ∀ {i : Nat} (hi : i < (rlL f).length), (rlL f)[i] < f.blocks.length := fun hi => List.mem_range.1 (List.mem_filter.1 (qh hi)).1
 have hrg : ∀ {x : Int}, x ∈ ord f → 0 ≤ x ∧ x < f.blocks.length := fun hx => order_rng hE.grph.toEOk hx
 have hbn : ∀ i (hi : i < (pruneF f).blocks.length), (pruneF f).blocks[i].name = (f.blocks[(rlL f)[i]'(by omega)]'(hrl (by omega))).name := fun i hi => by
  have e : (pruneF f).blocks[i] = pruneB (nmb f) (frL f ((rlL f)[i]'(by omega))) (blkX f ((rlL f)[i]'(by omega) : Nat)) := List.getElem_map ..
  rw [e]
  show (blkX f _).name = _
  rw [blkX_get (qd (hrl (by omega)))]
 refine ⟨h.typed hS (fun v hv => hv) (fun x hx p hp => phi_reached hT hJ hx hp) hT ?_ hS.2.1 hS.2.2.1 (fun i hi => ?_) ?_, h.joined (fun x hx p hp => phi_dist hS hJ (hrg hx).1 (hrg hx).2 hp) (fun x hx p hp => (phi_shape hS (hrg hx).1 (hrg hx).2 hp).2.1.symm) hJ⟩
 ·have h1 := hS.1
  unfold bad1 at h1 ⊢
  simp only [Bool.or_eq_false_iff, decide_eq_false_iff_not] at h1 ⊢
  refine ⟨h1.1, h1.2.1, h1.2.2.1, by omega, by omega⟩
 ·have hi2 : i < (rlL f).length := by omega
  refine ⟨by rw [hbn i hi]; exact (hS.2.2.2.1 _ (hrl hi2)).1, fun s hs => ?_⟩
  obtain ⟨c, hc, rfl⟩ := List.mem_map.1 hs
  obtain ⟨j, hj⟩ := List.getElem?_of_mem hc
  rw [List.getElem?_take] at hj
  split at hj
  ·rename_i hji
   have hj2 : j < (pruneF f).blocks.length := by omega
   rw [qd hj2] at hj
   rw [← Option.some.inj hj, hbn i hi, hbn j hj2]
   exact names_ne hS _ _ fun e => by
    have := (List.getElem_inj rl_nodup (h₀ := by omega) (h₁ := hi2)).1 e
    omega
  ·cases hj
 ·refine Nat.le_trans ?_ hS.2.2.2.2.1
  unfold sumTo
  show (((rlL f).map _).map _).sum ≤ _
  rw [List.map_map]
  have e1 : f.blocks.map (fun b : PBlock => b.phis.length + b.insts.length) = (List.range f.blocks.length).map fun b : Nat => (blkX f b).phis.length + (blkX f b).insts.length := by
   apply List.ext_getElem
   ·simp
   ·intro i h1 h2
    rw [List.getElem_map, List.getElem_map, List.getElem_range, blkX_get (qd (by simpa using h1))]
  rw [e1]
  refine Nat.le_trans (Nat.le_of_eq ?_) (sum_sub (List.filter_sublist (p := fun b : Nat => decide ((b : Int) ∈ ord f))))
  congr 1
  refine List.map_congr_left fun b _ => ?_
  show ((blkX f b).phis.map _).length + _ = _
  rw [qk]; rfl
theorem prune_can (hT : typedB f = true) (hJ : JoinP f) : canD (pruneF f) = canD f := by
 have hS := typedS hT
 have hE := typedE hT
 exact (prune_like hE hS hJ).can fun x hx p hp => phi_dist hS hJ (order_rng hE.grph.toEOk hx).1 (order_rng hE.grph.toEOk hx).2 hp
theorem prune_small (hs : small f) : small (pruneF f) := by
 obtain ⟨h1, h2, h3, h4, h5⟩ := hs
 refine ⟨h1, h2, ?_, h4, fun c hc => ?_⟩
 ·show ((rlL f).map _).length ≤ _
  rw [qk]
  have := List.length_filter_le (fun b : Nat => decide ((b : Int) ∈ ord f)) (List.range f.blocks.length)
  rw [List.length_range] at this
  unfold rlL; omega
 ·obtain ⟨b, hb, rfl⟩ := List.mem_map.1 hc
  have hb2 : b < f.blocks.length := List.mem_range.1 (List.mem_filter.1 hb).1
  obtain ⟨g1, g2, g3, g4, g5⟩ := h5 _ (blkX_mem (f := f) (x := b) (by omega) (by omega))
  refine ⟨g1, by show (List.map _ _).length ≤ _; rw [qk]; exact g2, g3, fun q hq => ?_, g5⟩
  obtain ⟨p, hp, rfl⟩ := List.mem_map.1 hq
  have := g4 p hp
  have hk := List.length_filter_le (fun z : Int × Int => decide (z.1 ∈ frL f b ∧ 0 ≤ nmb f z.1)) (prs p)
  have hz : (prs p).length ≤ p.args.length := by unfold prs; rw [List.length_zip]; omega
  have e1 : (pruneP (nmb f) (frL f b) p).args.length = (kept (nmb f) (frL f b) p).length := qk ..
  have e2 : (pruneP (nmb f) (frL f b) p).from_.length = (kept (nmb f) (frL f b) p).length := qk ..
  rw [e1, e2]
  unfold kept
  omega
end
end Go.Proofs.YtbkgklpihnfnjaaGreatDoor
namespace Go.Proofs.YtbkgklpihnfnjaaGreatDoor
open Go.Proofs.Tryz
open Go.Proofs Go.Lib
def valN (s : ByteArray) : Nat := (s.data.toList.drop 1).foldl (fun a b => 10 * a + (b.toNat - 48)) 0
theorem names_ok : (List.range 513).all (fun i => nameB (nameK 118 i) && nameB (nameK 98 i) && (valN (nameK 118 i) == i) && (valN (nameK 98 i) == i) && (decide ((nameK 118 i).size ≤ 10) && decide ((nameK 98 i).size ≤ 10))) = true := by decide +kernel
theorem name_ok {c : UInt8} (hc : c = 118 ∨ c = 98) {i : Nat} (h : i ≤ 512) : nameB (nameK c i) = true ∧ valN (nameK c i) = i ∧ (nameK c i).size ≤ 10 := by
 have := List.all_eq_true.1 names_ok i (List.mem_range.2 (by omega))
 simp only [qs, beq_iff_eq, qu] at this
 rcases hc with rfl | rfl
 ·exact ⟨this.1.1.1.1, this.1.1.2, this.2.1⟩
 ·exact ⟨this.1.1.1.2, this.1.2, this.2.2⟩
theorem name_inj {c : UInt8} (hc : c = 118 ∨ c = 98) {i j : Nat} (h : i ≤ 512) (k : j ≤ 512) (e : nameK c i = nameK c j) : i = j := by
 rw [← (name_ok hc h).2.1, ← (name_ok hc k).2.1, e]
theorem mem_pairs {l : List Int} {p : PPhi} {z : Int × Int} : z ∈ phPairs l p ↔ ∃ (k : Nat) (x : Int), l[k]? = some x ∧ z.1 = k ∧ lookP p x = some z.2 := by
 unfold phPairs
 rw [List.mem_filterMap]
 constructor
 ·rintro ⟨k, _, h⟩
  cases hx : l[k]? with
  | none => rw [hx] at h; cases h
  | some x =>
   rw [hx] at h
   have h : (lookP p x).map (fun a => ((k : Int), a)) = some z := h
   cases ha : lookP p x with
   | none => rw [ha] at h; cases h
   | some a =>
    rw [ha] at h
    have h := Option.some.inj h
    exact ⟨k, x, hx, by rw [← h], by rw [ha, ← h]⟩
 ·rintro ⟨k, x, hx, h1, h2⟩
  refine ⟨k, List.mem_range.2 (List.getElem?_eq_some_iff.1 hx).1, ?_⟩
  rw [hx]
  show (lookP p x).map _ = _
  rw [h2]
  show some ((k : Int), z.2) = some z
  rw [← h1]
theorem pairs_sorted (l : List Int) (p : PPhi) : (phPairs l p).Pairwise fun a b => a.1 < b.1 := by
 unfold phPairs
 rw [List.pairwise_filterMap]
 refine List.pairwise_lt_range.imp fun {a b} h => ?_
 intro z hz w hw
 cases hx : l[a]? with
 | none => rw [hx] at hz; cases hz
 | some x =>
  rw [hx] at hz
  cases hy : l[b]? with
  | none => rw [hy] at hw; cases hw
  | some y =>
   rw [hy] at hw
   have hz : (lookP p x).map (fun c => ((a : Int), c)) = some z := hz
   have hw : (lookP p y).map (fun c => ((b : Int), c)) = some w := hw
   rw [Option.map_eq_some_iff] at hz hw
   obtain ⟨_, _, rfl⟩ := hz
   obtain ⟨_, _, rfl⟩ := hw
   show (a : Int) < b
   omega
theorem pos_at {l : List Int} (hn : l.Nodup) {k : Nat} {x : Int} (h : l[k]? = some x) : posI l x = k := by
 obtain ⟨hk, e⟩ := List.getElem?_eq_some_iff.1 h
 unfold posI
 rw [← e]
 have hl := List.idxOf_lt_length_of_mem (qh hk)
 have := (List.getElem_inj hn (h₀ := hl) (h₁ := hk)).1 (List.getElem_idxOf hl)
 rw [this]
theorem at_pos {l : List Int} {x : Int} (h : x ∈ l) : l[(posI l x).toNat]? = some x ∧ 0 ≤ posI l x ∧ posI l x < l.length := by
 have hl := List.idxOf_lt_length_of_mem h
 unfold posI
 refine ⟨?_, by omega, by omega⟩
 rw [Int.toNat_natCast, qd hl, List.getElem_idxOf hl]
theorem pos_inj {l : List Int} {x y : Int} (hx : x ∈ l) (hy : y ∈ l) (e : posI l x = posI l y) : x = y := by
 have := (at_pos hx).1
 rw [e, (at_pos hy).1] at this
 exact (Option.some.inj this).symm
theorem pairs_perm {l : List Int} (hn : l.Nodup) {p : PPhi} (hD : DistP p) : (phPairs l p).Perm (((prs p).filter fun z => decide (z.1 ∈ l)).map fun z => (posI l z.1, z.2)) := by
 have n1 : (phPairs l p).Nodup := (pairs_sorted l p).imp fun {a b} h e => by rw [e] at h; omega
 have n2 : (((prs p).filter fun z => decide (z.1 ∈ l)).map fun z => (posI l z.1, z.2)).Nodup := by
  have hd : ((prs p).map (·.1)).Nodup := hD
  have : ∀ m : List (Int × Int), (m.map (·.1)).Nodup → ((m.filter fun z => decide (z.1 ∈ l)).map fun z => (posI l z.1, z.2)).Nodup := by
   intro m
   induction m with
   | nil => intro _; simp
   | cons z m ih =>
    intro h
    rw [List.map_cons, List.nodup_cons] at h
    rw [List.filter_cons]
    split
    ·rename_i hz
     rw [List.map_cons, List.nodup_cons]
     refine ⟨fun hm=>?_, ih h.2⟩
     obtain ⟨w, hw, e⟩ := List.mem_map.1 hm
     obtain ⟨w1, w2⟩ := List.mem_filter.1 hw
     exact h.1 (List.mem_map.2 ⟨w, w1, pos_inj (of_decide_eq_true w2) (of_decide_eq_true hz) (Prod.mk.inj e).1⟩)
    ·exact ih h.2
  exact this _ hd
 refine (List.perm_ext_iff_of_nodup n1 n2).2 fun z=>?_
 rw [mem_pairs, List.mem_map]
 constructor
 ·rintro ⟨k, x, hx, h1, h2⟩
  exact ⟨(x, z.2), List.mem_filter.2 ⟨(look_iff hD).1 h2, qq (qm hx)⟩, by rw [pos_at hn hx, ← h1]⟩
 ·rintro ⟨w, hw, e⟩
  obtain ⟨w1, w2⟩ := List.mem_filter.1 hw
  have hm := of_decide_eq_true w2
  have := at_pos hm
  exact ⟨(posI l w.1).toNat, w.1, this.1, by rw [← e, qt this.2.1], by rw [← e]; exact (look_iff hD).2 w1⟩
theorem pairs_of_sorted {l : List Int} (hn : l.Nodup) {p : PPhi} (hD : DistP p) (hl : ∀ x ∈ p.from_, x ∈ l) {L : List (Int × Int)} (hs : L.Pairwise fun a b => a.1 ≤ b.1) (hp : L.Perm ((prs p).map fun z => (posI l z.1, z.2))) : L = phPairs l p := by
 have e : (prs p).filter (fun z => decide (z.1 ∈ l)) = prs p := List.filter_eq_self.2 fun z hz => qq (hl _ (List.of_mem_zip hz).1)
 have hq := pairs_perm hn hD
 rw [e] at hq
 have hpq := hp.trans hq.symm
 refine List.Perm.eq_of_pairwise (le := fun a b => a.1 ≤ b.1) (fun a b ha hb h1 h2 => ?_) hs ((pairs_sorted l p).imp fun h => Int.le_of_lt h) hpq
 have ha := hpq.mem_iff.1 ha
 obtain ⟨k, x, hx, hk, h3⟩ := mem_pairs.1 ha
 obtain ⟨j, y, hy, hj, h4⟩ := mem_pairs.1 hb
 have : k = j := by omega
 rw [this, hy] at hx
 rw [Option.some.inj hx, h3] at h4
 exact Prod.ext (by omega) (Option.some.inj h4)
theorem see_mem : ∀ {vs l : List Int} {v : Int}, v ∈ seeL l vs ↔ v ∈ l ∨ v ∈ vs
 | [], l, v => by show v ∈ l ↔ _; simp
 | w :: vs, l, v => by
  show v ∈ seeL (see1 l w) vs ↔ _
  rw [see_mem]
  have : v ∈ see1 l w ↔ v ∈ l ∨ v = w := by
   unfold see1
   split
   ·rename_i h
    exact ⟨.inl, fun k => k.elim id fun e => e ▸ h⟩
   ·rw [List.mem_append, List.mem_singleton]
  rw [this, List.mem_cons, or_assoc]
theorem see_nodup : ∀ {vs l : List Int}, l.Nodup → (seeL l vs).Nodup
 | [], _, h => h
 | w :: vs, l, h => by
  show (seeL (see1 l w) vs).Nodup
  refine see_nodup ?_
  unfold see1
  split
  ·exact h
  ·rename_i hw
   rw [List.nodup_append]
   exact ⟨h, by simp, fun a ha b hb => by rw [List.mem_singleton.1 hb]; exact fun e => hw (e ▸ ha)⟩
theorem see_pre : ∀ {vs l : List Int}, l <+: seeL l vs
 | [], l => List.prefix_refl l
 | w :: vs, l => by
  show l <+: seeL (see1 l w) vs
  refine List.IsPrefix.trans ?_ see_pre
  unfold see1
  split
  ·exact List.prefix_refl l
  ·exact List.prefix_append ..
theorem see_new : ∀ {vs l : List Int}, vs.Nodup → (∀ v ∈ vs, v ∉ l) → seeL l vs = l ++ vs
 | [], l, _, _ => by show l = l ++ []; rw [List.append_nil]
 | w :: vs, l, h, k => by
  rw [List.nodup_cons] at h
  show seeL (see1 l w) vs = _
  unfold see1
  rw [if_neg (k w (.head _)), see_new h.2 fun v hv => ?_, qf]; rfl
  rw [List.mem_append, List.mem_singleton]
  exact fun e => e.elim (k v (.tail _ hv)) fun e => h.1 (e ▸ hv)
theorem see_app (l vs ws : List Int) : seeL l (vs ++ ws) = seeL (seeL l vs) ws := by unfold seeL; rw [List.foldl_append]
end Go.Proofs.YtbkgklpihnfnjaaGreatDoor
namespace Go.Proofs.YtbkgklpihnfnjaaGreatDoor
open Go.Proofs.Tryz
open Go.Proofs Go.Lib Go.Shelf Go.RowKit
variable {E : World}
set_option maxRecDepth 20000
theorem idx_first : ∀ {l : List Int} {k : Nat} {v : Int}, l[k]? = some v → v ∉ l.take k → l.idxOf v = k
 | [], k, v, h, _ => by simp at h
 | x :: l, 0, v, h, _ => by
  simp at h; subst h
  rw [List.idxOf_cons]; simp
 | x :: l, k + 1, v, h, hn => by
  rw [List.take_succ_cons, List.mem_cons, not_or] at hn
  rw [List.idxOf_cons, idx_first (k := k) (by simpa using h) hn.2]
  have : (x == v) = false := beq_eq_false_iff_ne.2 (fun e => hn.1 e.symm)
  rw [this]; rfl
end Go.Proofs.YtbkgklpihnfnjaaGreatDoor
namespace Go.Proofs.YtbkgklpihnfnjaaGreatDoor
open Go.Proofs.Tryz
variable {α : Type}
def mg (k : Int) : List (Int × List α) → List α
 | [] => []
 | (k', r) :: es => if k = k' then r else mg k es
def ms (k : Int) (r : List α) : List (Int × List α) → List (Int × List α)
 | [] => [(k, r)]
 | (k', r') :: es => if k = k' then (k, r) :: es else (k', r') :: ms k r es
def kv (k : Int) : Value := .int .i64 k
theorem kv_key (k : Int) : MapKept.IsKey (.int .i64) (kv k) := rfl
theorem kv_now (k k' : Int) : Instr.sameNow (.int .i64) (kv k) (kv k') = some (decide (k = k')) := by
 simp [Instr.sameNow, kv]; by_cases h : k = k' <;> simp [h]
def ents (arr : Array MapEntry) : List (Value × Value) := arr.toList.map fun e => (e.key, e.val)
section
variable {E : World} {P : Program} {ops : Array Oper} {K : AEnv → OL → Prop} {env : AEnv} {O O' O'' : OL} {rest : List Oper} {n : Nat}
variable {d ty : Nat} {pos : String} {af : Array Edge} {x y z : Operand} {t u e T kt : TypeId} {b : Nat}
end
end Go.Proofs.YtbkgklpihnfnjaaGreatDoor
namespace Go.Proofs.YtbkgklpihnfnjaaGreatDoor
open Go.Proofs.Tryz
def ag (k : Int) : List (Int × AV) → Option AV
 | [] => none
 | (k', x) :: es => if k = k' then some x else ag k es
def am (k : Int) (x : AV) : List (Int × AV) → List (Int × AV)
 | [] => [(k, x)]
 | (k', x') :: es => if k = k' then (k, x) :: es else (k', x') :: am k x es
theorem ag_am (k k' : Int) (x : AV) : ∀ es : List (Int × AV), ag k (am k' x es) = if k = k' then some x else ag k es
 | [] => by simp only [am, ag]
 | (q, y) :: es => by
  simp only [am]
  by_cases h : k' = q
  ·subst h
   rw [if_pos rfl]
   simp only [ag]
   by_cases h2 : k = k'
   ·rw [if_pos h2, if_pos h2]
   ·rw [if_neg h2, if_neg h2, if_neg h2]
  ·rw [if_neg h]
   simp only [ag]
   by_cases h2 : k = q
   ·rw [if_pos h2, if_pos h2, if_neg (fun e => h (by rw [← e, h2]))]
   ·rw [if_neg h2, if_neg h2]; exact ag_am k k' x es
def EntR (I : G) : List (Int × AV) → List (Value × Value) → Prop
 | [], hs => hs = []
 | (k, x) :: es, hs => ∃ v hs', hs = (kv k, v) :: hs' ∧ RepV I x v ∧ EntR I es hs'
theorem EntR.mono {I J : G} (h : I.le J) : ∀ {es : List (Int × AV)} {hs : List (Value × Value)}, EntR I es hs → EntR J es hs
 | [], _, e => e
 | (_, _) :: _, _, ⟨v, hs', e, h1, h2⟩ => ⟨v, hs', e, RepV.mono h _ _ h1, EntR.mono h h2⟩
theorem EntR.get {I : G} {k : Int} : ∀ {l : List MapEntry} {es : List (Int × AV)} (i : Nat), EntR I es (l.map fun e => (e.key, e.val)) →
  (Instr.findNow (.int .i64) (kv k) l i = some none ∧ ag k es = none ∧ ∀ y u, RepV I y u → EntR I (am k y es) ((l.map fun e => (e.key, e.val)) ++ [(kv k, u)])) ∨
  (∃ j e0 v x, Instr.findNow (.int .i64) (kv k) l i = some (some (i + j, v)) ∧ l[j]? = some e0 ∧ e0.key = kv k ∧ ag k es = some x ∧ RepV I x v ∧ ∀ y u, RepV I y u → EntR I (am k y es) ((l.map fun e => (e.key, e.val)).set j (kv k, u)))
 | [], [], i, _ => .inl ⟨rfl, rfl, fun y u h => ⟨u, [], rfl, h, rfl⟩⟩
 | _ :: _, [], _, h => by cases h
 | [], (_, _) :: _, _, ⟨_, _, e, _⟩ => by cases e
 | x :: l, (k1, r) :: es, i, ⟨v, hs', e, h1, h2⟩ => by
  simp only [List.map_cons, List.cons.injEq, Prod.mk.injEq] at e
  obtain ⟨⟨hk, hv⟩, rfl⟩ := e
  by_cases e1 : k = k1
  ·subst e1
   right
   refine ⟨0, x, v, r, ?_, Z, hk, by simp [ag], h1, fun y u h => ?_⟩
   ·unfold Instr.findNow; rw [hk, kv_now, qq rfl]; simp [hv]
   ·simp only [am, if_pos, List.map_cons, List.set_cons_zero]
    exact ⟨u, _, rfl, h, h2⟩
  ·have hf : Instr.findNow (.int .i64) (kv k) (x :: l) i = Instr.findNow (.int .i64) (kv k) l (i + 1) := by
    rw [Instr.findNow, hk, kv_now, qr e1]
   have hg : ag k ((k1, r) :: es) = ag k es := by simp [ag, e1]
   have hms : ∀ y, am k y ((k1, r) :: es) = (k1, r) :: am k y es := fun y => by simp [am, e1]
   rw [hf, hg]
   rcases EntR.get (k := k) (i + 1) h2 with ⟨g1, g2, g3⟩ | ⟨j, e0, v1, x1, g1, g2, g3, g4, g5, g6⟩
   ·left
    refine ⟨g1, g2, fun y u h => ?_⟩
    rw [hms]
    exact ⟨v, _, by rw [List.map_cons, hk, hv]; rfl, h1, g3 y u h⟩
   ·right
    refine ⟨j + 1, e0, v1, x1, by rw [g1]; congr 3; omega, by simpa using g2, g3, g4, g5, fun y u h => ?_⟩
    rw [hms]
    exact ⟨v, _, by rw [List.map_cons, hk, hv, List.set_cons_succ], h1, g6 y u h⟩
def mapAO (b : Nat) (es : List (Int × AV)) : AObj := .heapG (fun I L => ∃ arr clock, L = [(b, .map arr clock)] ∧ EntR I es (ents arr)) fun I J L h hp => by
 obtain ⟨arr, clock, h1, h2⟩ := hp; exact ⟨arr, clock, h1, h2.mono h⟩
section
variable {E : World} {P : Program} {ops : Array Oper} {K : AEnv → OL → Prop} {env : AEnv} {O O' O'' : OL} {rest : List Oper} {n : Nat}
variable {d ty : Nat} {pos : String} {af : Array Edge} {x y z : Operand} {t u e T kt : TypeId} {b : Nat}
theorem AOps.makeMapA (k : ∀ b, AOps P E ops K rest (aupd env d (mref b)) ((0, mapAO b []) :: O)) : AOps P E ops K (Oper.mk (some d) (.makeMap t none) ty pos af none :: rest) env O := fun I F ρ w h1 ⟨ht, L, hL, hS⟩ => by
 refine Ops.step Z ?_
 unfold OpW
 have : (execOp (Go.Proofs.YtbkgklpihnfnjaaGreatDoor.ev ρ) (Oper.mk (some d) (.makeMap t none) ty pos af none)).run P w = .ok (.value (.map (some w.heap.size))) (w.alloc (.map #[] 0)) := by
  simp only [execOp, Option.map_none]
  rw [Sem.run_bind, run_makeMap_plain]; rfl
 rw [this]
 exact k w.heap.size I F _ _ (h1.upd d rfl) ⟨ht, (w.heap.size, .map #[] 0) :: L, ⟨[_], L, rfl, ⟨#[], 0, rfl, rfl⟩, hL⟩, hS.alloc _⟩
theorem Gv.lookupA {k : Int} {m : Nat} {es : List (Int × AV)} {zx : AV} {zv : Value} {r : Option AV} (hg : ag k es = r) (ht : P.underlying t = some (.map kt u)) (hk : P.underlying kt = some (.int .i64)) (hz : ∀ w, (zeroValue u).run P w = .ok zv w) (hzr : ∀ I, RepV I zx zv) (hx : aev env x = mref b) (hy : aev env y = .int .i64 k)
  (hO : Has O m (mapAO b es)) : Gv P env O (Oper.mk (some d) (.lookup t x y true) ty pos af none) (.tup [r.getD zx, .bool r.isSome]) := fun I L E ρ h1 hL => by
 subst hg
 obtain ⟨O', hO⟩ := hO
 obtain ⟨A, B, hp, ⟨arr, clock, rfl, hM⟩, _⟩ := hO.rep hL
 have hin0 : (b, Obj.map arr clock) ∈ L := hp.mem_iff.2 (by simp)
 have hx := evRaw h1 hx
 have hy := evI h1 hy
 have hb : ∀ w J L', I.k.le J → SL J L' E w → (∀ y ∈ L, y ∈ L') → w.heap[b]? = some (Obj.map arr clock) := fun w J L' hl hS hin => by
  have := hS.own _ (hin _ hin0); simpa using this
 have hc : ∀ w, (Instr.checkKey arr.isEmpty 10000 kt (kv k)).run P w = .ok () w := fun w => MapKept.run_checkKey (k := kv k) hk (kv_key k) _ 9999
 rcases EntR.get (k := k) 0 hM with ⟨g1, g2, _⟩ | ⟨j, e0, v, x1, g1, _, _, g4, g5, _⟩
 ·rw [g2]
  refine ⟨.tuple #[zv, .bool false], ⟨[_, _], Z, _, _, Z, hzr I, _, _, Z, Z, Z⟩, fun w J L' hl hS hin => ?_⟩
  have hb := hb w J L' hl hS hin
  have hc := hc w
  simp only [kv] at hc g1
  simp [execOp, Instr.lookup, run_underlying ht, hx, hy, MapKept.run_getObj_map hb, hc, MapKept.run_findKey hk g1, hz, Result.andThen]
 ·rw [g4]
  refine ⟨.tuple #[v, .bool true], ⟨[_, _], Z, _, _, Z, g5, _, _, Z, Z, Z⟩, fun w J L' hl hS hin => ?_⟩
  have hb := hb w J L' hl hS hin
  have hc := hc w
  simp only [kv] at hc g1
  simp [execOp, Instr.lookup, run_underlying ht, hx, hy, MapKept.run_getObj_map hb, hc, MapKept.run_findKey hk g1, Result.andThen]
theorem AOps.mapSetA {k : Int} {m : Nat} {v : AV} {es : List (Int × AV)} (ht : P.underlying t = some (.map kt u)) (hk : P.underlying kt = some (.int .i64)) (hx : aev env x = mref b) (hy : aev env y = .int .i64 k) (hz : aev env z = v) (hO : Put O m (mapAO b es) (mapAO b (am k v es)) O')
  (kk : AOps P E ops K rest env O') : AOps P E ops K (Oper.mk none (.mapUpdate t x y z) ty pos af none :: rest) env O := fun I F ρ w h1 ⟨htop, L, hL, hS⟩ => by
 have hx := evRaw h1 hx
 have hy := evI h1 hy
 have hz2 := h1.ev z
 rw [hz] at hz2
 obtain ⟨uu, hu⟩ : ∃ uu, Go.Proofs.YtbkgklpihnfnjaaGreatDoor.ev ρ z = uu := ⟨_, rfl⟩
 rw [hu] at hz2
 obtain ⟨A, B, hp, ⟨arr, clock, rfl, he⟩, hback⟩ := hO.rep hL
 have hS2 : SL I.k ((b, .map arr clock) :: (B ++ F)) E w := hS.perm ((hp.append_right F).symm)
 have hb := hS2.own _ (.head _)
 simp only at hb
 have hc : (Instr.checkKey false 10000 kt (kv k)).run P w = .ok () w := MapKept.run_checkKey (k := kv k) hk (kv_key k) false 9999
 have fin : ∀ (arr' : Array MapEntry) (clock' : Nat), EntR I (am k v es) (ents arr') →
   (execOp (Go.Proofs.YtbkgklpihnfnjaaGreatDoor.ev ρ) (Oper.mk none (.mapUpdate t x y z) ty pos af none)).run P w = .ok .skip { w with heap := w.heap.setIfInBounds b (.map arr' clock') } → Ops P ops (postK I F E K) (Oper.mk none (.mapUpdate t x y z) ty pos af none :: rest) ρ w := fun arr' clock' he' hrun => by
  refine Ops.step Z ?_
  unfold OpW
  rw [hrun]
  obtain ⟨L', h7, h8⟩ := hback (qa I) (A' := [(b, .map arr' clock')]) ⟨arr', clock', rfl, he'⟩
  have hh := MapKept.heap_set (o' := .map arr' clock') hb
  have hS3 : SL I.k ((b, .map arr' clock') :: (B ++ F)) E { w with heap := w.heap.setIfInBounds b (.map arr' clock') } := hS2.turn rfl rfl rfl hh.1 hh.2
  exact kk I F ρ _ h1 ⟨htop, L', h7, hS3.perm (h8.append_right F)⟩
 rcases EntR.get (k := k) 0 he with ⟨g1, _, g3⟩ | ⟨j, e0, v1, x1, g1, g2, g3, _, _, g6⟩
 ·refine fin (arr.push { key := kv k, val := uu, born := clock }) (clock + 1) ?_ ?_
  ·have := g3 v uu hz2
   unfold ents; simpa using this
  ·simp only [kv] at hc g1
   simp [execOp, hx, hy, hu, Instr.mapUpdate, run_underlying ht, MapKept.run_getObj_map hb, hc, MapKept.run_findKey hk g1, MapKept.run_setObj_map _ hb, Result.andThen, kv]
 ·rw [Nat.zero_add] at g1
  have hj' : arr[j]? = some e0 := by rw [← Array.getElem?_toList]; exact g2
  refine fin (arr.modify j fun e => { e with key := kv k, val := uu }) clock ?_ ?_
  ·have hjl : j < arr.toList.length := (List.getElem?_eq_some_iff.1 g2).1
   have : (arr.modify j fun e => { e with key := kv k, val := uu }).toList = arr.toList.set j { e0 with key := kv k, val := uu } := by
    apply List.ext_getElem?
    intro q
    rw [Array.getElem?_toList, Array.getElem?_modify]
    by_cases hq : j = q
    ·subst hq
     rw [if_pos rfl, hj', List.getElem?_set_self hjl]; rfl
    ·rw [if_neg hq, List.getElem?_set_ne hq, Array.getElem?_toList]
   unfold ents
   rw [this, List.map_set]; exact g6 v uu hz2
  ·have hkeep : (Instr.keyThatStays (kv k) (kv k)).run P w = .ok (kv k) w := MapKept.run_keyThatStays (kv_key k)
   simp only [kv] at hc g1 g3 hkeep
   simp [execOp, hx, hy, hu, Instr.mapUpdate, run_underlying ht, MapKept.run_getObj_map hb, hc, MapKept.run_findKey hk g1, MapKept.run_setObj_map _ hb, Result.andThen, hj', g3, hkeep, kv]
end
end Go.Proofs.YtbkgklpihnfnjaaGreatDoor
namespace Go.Proofs.YtbkgklpihnfnjaaGreatDoor
open Go.Proofs.Tryz
open Go.Proofs Go.Lib Go.Shelf Go.RowKit
variable {E : World}
set_option maxRecDepth 20000
def MapOf (l : List Int) (es : List (Int × AV)) : Prop := ∀ k, ag k es = if k ∈ l then some (.int .i64 (posI l k)) else none
theorem MapOf.push {l : List Int} {es : List (Int × AV)} (h : MapOf l es) {v : Int} (hv : v ∉ l) : MapOf (l ++ [v]) (am v (.int .i64 l.length) es) := fun k => by
 rw [ag_am]
 by_cases e : k = v
 ·subst e
  rw [if_pos rfl, if_pos (by simp)]
  have : (l ++ [k]).idxOf k = l.length := idx_first (by simp) (by simpa using hv)
  unfold posI
  rw [this]
 ·rw [if_neg e, h k]
  by_cases hk : k ∈ l
  ·rw [if_pos hk, if_pos (List.mem_append_left _ hk)]
   unfold posI
   rw [List.idxOf_append, if_pos hk]
  ·rw [if_neg hk, if_neg (by simp [hk, e])]
theorem see_len : ∀ (vs l : List Int), (seeL l vs).length ≤ l.length + vs.length
 | [], l => Nat.le_refl _
 | w :: vs, l => by
  show (seeL (see1 l w) vs).length ≤ _
  have h1 := see_len vs (see1 l w)
  have h2 : (see1 l w).length ≤ l.length + 1 := by
   unfold see1; split
   ·omega
   ·rw [qj]; exact Nat.le_refl _
  rw [List.length_cons]; omega
def ordO (o b io : Nat) (l : List Int) (es : List (Int × AV)) : OL := [(o, .cells 57 [.own io l.length, mref b]), (io, .grow 1 3 (cI l)), (0, mapAO b es)]
theorem see_spec (o b io : Nat) (l vs : List Int) (es : List (Int × AV)) (hM : MapOf l es) (hl : l.length + vs.length ≤ 1000000) :
  ACall prog E 39 [.po o 0, .fro 1 (vs.map encI)] (ordO o b io l es) (fun x O' => ∃ g : Nat × List (Int × AV), x = .tup [] ∧ O' = ordO o b g.1 (seeL l vs) g.2 ∧ MapOf (seeL l vs) g.2) := by
 unfold ordO
 refine ACall.exact (γ := Nat × List (Int × AV)) (x := fun _ => .tup []) (M := fun g => [(o, .cells 57 [.own g.1 (seeL l vs).length, mref b]), (g.1, .grow 1 3 (cI (seeL l vs))), (0, mapAO b g.2)]) (p := fun g => MapOf (seeL l vs) g.2)<|zk func39 Z (by decide) Z<|zSr<|zVzMf Z<|zVGvlenM j9 Z<|zVzMi Z<|z6<|zg<|y3 (γ := Nat × Nat × List (Int × AV)) [0, 8, 9] (fun g => [(10, .int .i64 g.1)]) (fun g => [(o, .cells 57 [.own g.2.1 (seeL l (vs.take g.1)).length, mref b]), (g.2.1, .grow 1 3 (cI (seeL l (vs.take g.1)))), (0, mapAO b g.2.2)]) (fun g => g.1 ≤ vs.length ∧ MapOf (seeL l (vs.take g.1)) g.2.2) (fun g => vs.length - g.1) (0, io, es) zR1 zLe (⟨qg _, hM⟩) ?_
 rintro ⟨k, io, es⟩ ⟨hk, hM⟩
 try dsimp only at *
 refine zSr<|zVGvlss Z Z<|z6<|zb<|zr Z (fun ck=>?_) (fun ck=>?_)
 ·have hk2 : k < vs.length := by omega
  obtain ⟨v, hv⟩ : ∃ v, vs[k] = v := ⟨_, rfl⟩
  have hsn : seeL l (vs.take (k + 1)) = see1 (seeL l (vs.take k)) v := by rw [qe hk2, hv, see_app]; rfl
  have hSl : (seeL l (vs.take k)).length ≤ l.length + k := by
   have := see_len (vs.take k) l
   rw [qp] at this; omega
  obtain ⟨S, hS⟩ : ∃ S, seeL l (vs.take k) = S := ⟨_, rfl⟩
  rw [hS] at hsn hM hSl ⊢
  have hgv := hM v
  by_cases hm : v ∈ S
  ·rw [if_pos hm] at hgv
   refine zf<|zb<|zg<|zSr<|z8 (zIM k j9 jd Z Z Z (show vs[k]? = some v by rw [qd hk2, hv]))<|zVzLi jr Z<|zVzAi Z<|z6<|zSr<|zVzMp Z<|zVGvnilCheckO Z<|z8 (zc Y4 Z sizeOf55 (by decide) Z Z)<|z8 (zj (c := mref _) isAgg55 Z ⟨_, .head⟩ Z)<|zVzMi Z<|z8 (Gv.lookupA (zx := .int .i64 0) hgv X2 Zg Zs (fun _ => Z) Z Z ⟨_, .t2⟩)<|z8 (zMu Z)<|z8 (zXi Z Z)<|z8 (zXb Z Z)<|zVzAi Z<|zVzAb Z<|z6<|zSr<|zVzMb Z<|zVGvnot Z<|z6<|yc Z Z<|zf<|zRg<|zVzAd Z Z<|zVzMi Z<|z6 ?_
   exact ⟨(k + 1, io, es), zR3, zR1, ⟨_, (.refl _), by rw [hsn]; unfold see1; rw [if_pos hm]⟩, ⟨hk2, by rw [hsn]; unfold see1; rw [if_pos hm]; exact hM⟩, by dsimp only; omega⟩
  ·rw [if_neg hm] at hgv
   refine zf<|zb<|zg<|zSr<|z8 (zIM k j9 jd Z Z Z (show vs[k]? = some v by rw [qd hk2, hv]))<|zVzLi jr Z<|zVzAi Z<|z6<|zSr<|zVzMp Z<|zVGvnilCheckO Z<|z8 (zc Y4 Z sizeOf55 (by decide) Z Z)<|z8 (zj (c := mref _) isAgg55 Z ⟨_, .head⟩ Z)<|zVzMi Z<|z8 (Gv.lookupA (zx := .int .i64 0) hgv X2 Zg Zs (fun _ => Z) Z Z ⟨_, .t2⟩)<|z8 (zMu Z)<|z8 (zXi Z Z)<|z8 (zXb Z Z)<|zVzAi Z<|zVzAb Z<|z6<|zSr<|zVzMb Z<|zVGvnot Z<|z6<|yh Z Z<|zb<|zw (fun j => false) (by kernel_rfl) Z (zu (.r (.rest _)))<|zTk 0 Z (zMp Z)<|zTk 1 Z (yl Z)<|zTk 2 Z (zc Y4 Z sizeOf55 (by decide) Z Z)<|zTk 3 Z (zj (c := mref _) isAgg55 Z ⟨_, .head⟩ Z)<|zTk 4 Z (zMi Z)<|zTk 5 Z (zMp Z)<|zTk 6 Z (yl Z)<|zTk 7 Z (zc Y4 Z jn (by decide) Z Z)<|zTk 8 Z (zj (c := .own _ _) jz Z ⟨_, .head⟩ Z)<|zTk 9 Z (q7 j9 Z)<|zOn 10 Z<|AOps.mapSetA (v := .int _ _) X2 Zg Z Z Z .t1<|z6 ?_
   refine zDn ?_
   have hsv : seeL l (vs.take (k + 1)) = S ++ [v] := by rw [hsn]; unfold see1; rw [if_neg hm]
   refine zRg<|zVzMp Z<|zVzMp Z<|zVGvnilCheckO Z<|z8 (zc Y4 Z jn (by decide) Z Z)<|z8 (zj (c := .own _ _) jz Z ⟨_, .head⟩ Z)<|zVzMi Z<|zl (rows := [[_]]) ps23_1 Z Z Z Z Z<|zy (k := 1) j9 Yx Z Z Z Z Z (fun _ => .t1) (by rw [cI_len]; omega) (by decide) Z (by show (_ + _) * 8 ≤ _; simp <;> omega) (by simp <;> omega)<|fun i42 => zVGvnilCheckO Z<|z8 (zc Y4 Z jn (by decide) Z Z)<|y5 (l := [_]) (new := [_, _]) jn Z Z Z Z Z Z .head Z Z<|z6<|zRg<|zVzAd Z Z<|zVzMi Z<|z6 ?_
   exact ⟨(k + 1, i42, am v (.int .i64 S.length) es), zR3, zR1, ⟨_, (.refl _), by rw [hsv, qj, ← cI_app]; rfl⟩, ⟨hk2, by rw [hsv]; exact hM.push hm⟩, by dsimp only; omega⟩
 ·obtain rfl : k = vs.length := by omega
  rw [qi] at hM ⊢
  refine y2<|afin.t0 ?_
  exact ⟨(io, es), rfl, ⟨_, .refl _, rfl⟩, hM⟩
end Go.Proofs.YtbkgklpihnfnjaaGreatDoor
namespace Go.Proofs.YtbkgklpihnfnjaaGreatDoor
open Go.Proofs.Tryz
open Go.Proofs Go.Lib Go.Shelf Go.RowKit
theorem pl57 : Places prog 57 #[(0, 1), (1, 1)] [.raw (.slice none 0 0), .raw (.map none)] := ⟨_, _, Y4, zeroValue57, fun w => by kernel_rfl, rfl⟩
variable {E : World}
set_option maxRecDepth 20000
theorem seen_bd {n : Nat} {vs : List Int} (h : ∀ v ∈ vs, 0 ≤ v ∧ v < (n : Int)) : (seeL [] vs).length ≤ n := by
 have := List.Nodup.length_le_of_subset (l₂ := intsTo n) (see_nodup (vs := vs) (l := []) (by simp)) fun v hv => by
  rw [see_mem] at hv
  exact mem_intsTo.2 (h v (hv.resolve_left (by simp)))
 rwa [intsTo_len] at this
theorem seen_spec (F : AV) (ps : List Int) (bs : List PBlock) (n : Nat) (hn : n ≤ 1000) (hps : ∀ v ∈ ps, 0 ≤ v ∧ v < (n : Int)) (hbs : ∀ b ∈ bs, ∀ v ∈ blkVars b, 0 ≤ v ∧ v < (n : Int)) (hpl : ps.length ≤ 1000) (hbl : bs.length ≤ 1000) (hb : ∀ b ∈ bs, smallBlk b) (a c : AV) :
  ACall prog E 16 [.agg [a, .fro 1 (ps.map encI), c], .fro 7 (bs.map encBlk)] [] (fun x O' => ∃ g : Nat × Nat × Nat × List (Int × AV), x = .po g.1 0 ∧ O' = ordO g.1 g.2.1 g.2.2.1 (seeL [] (ps ++ bs.flatMap blkVars)) g.2.2.2 ∧ MapOf (seeL [] (ps ++ bs.flatMap blkVars)) g.2.2.2) := by
 refine ACall.exact (γ := Nat × Nat × Nat × List (Int × AV)) (x := fun g => .po g.1 0) (M := fun g => ordO g.1 g.2.1 g.2.2.1 (seeL [] (ps ++ bs.flatMap blkVars)) g.2.2.2) (p := fun g => MapOf (seeL [] (ps ++ bs.flatMap blkVars)) g.2.2.2) ?_
 unfold ordO
 have hM0 : MapOf [] [] := fun k => by rw [if_neg (by simp)]; rfl
 refine zk func16 Z (by decide) Z<|zSr<|y6 (cs := _) Z Z Z<|zVzAr Z<|z6<|zSr<|AOps.makeMapA<|fun b12 => z8 (y4 (cps := [(1, [_])]) (rs := [.raw (.slice none 0 0), _]) pl57 Z Z Z)<|AOps.boxO (cs := _) Z Z Z Z<|fun i14 => z8 (zAp Z)<|z6<|adoptC_wp (off := 0) (k := 1) (T := 3) (fun _ => .head) Z<|fun io => zt (zn (zp .t2))<|zt (zn (zp .t1))<|zt (zn (zp .t2))<|zSr<|zVzMp Z<|zVzFF jc Z jn Z Z<|zVzLf jz Z<|ye Z (zu (.l (.l (.l (.rest _))))) (see_spec i14 b12 io [] ps [] hM0 (by simp; omega)) ?_
 rintro r18 O18 ⟨⟨io, es⟩, rfl, rfl, hM⟩
 refine z6<|zb<|zSr<|zVzMf Z<|zVGvlenM jo Z<|zVzMi Z<|z6<|zg<|y3 (γ := Nat × Nat × List (Int × AV)) [5, 19, 20] (fun g => [(21, .int .i64 g.1)]) (fun g => [(i14, .cells 57 [.own g.2.1 (seeL [] (ps ++ (bs.take g.1).flatMap blkVars)).length, mref b12]), (g.2.1, .grow 1 3 (cI (seeL [] (ps ++ (bs.take g.1).flatMap blkVars)))), (0, mapAO b12 g.2.2)]) (fun g => g.1 ≤ bs.length ∧ MapOf (seeL [] (ps ++ (bs.take g.1).flatMap blkVars)) g.2.2) (fun g => bs.length - g.1) (0, io, es) zR1 ⟨_, (.refl _), by simp only [List.take_zero, List.flatMap_nil, List.append_nil]; rfl⟩ (⟨qg _, by rw [List.take_zero, List.flatMap_nil, List.append_nil]; exact hM⟩) ?_
 rintro ⟨k, io, es⟩ ⟨hk, hM⟩
 try dsimp only at *
 refine zSr<|zVGvlss Z Z<|z6<|zb<|zr Z (fun ck=>?_) (fun ck=>?_)
 ·have hk2 : k < bs.length := by omega
  obtain ⟨b, hbk⟩ : ∃ b, bs[k] = b := ⟨_, rfl⟩
  have hgb : bs[k]? = some b := by rw [qd hk2, hbk]
  have hbm : b ∈ bs := hbk ▸ qh hk2
  obtain ⟨q1, q2, q3, q4, q5⟩ := hb b hbm
  have hbv := hbs b hbm
  obtain ⟨L0, hL0⟩ : ∃ L0, ps ++ (bs.take k).flatMap blkVars = L0 := ⟨_, rfl⟩
  have hL0v : ∀ v ∈ L0, 0 ≤ v ∧ v < (n : Int) := fun v hv => by
   rw [← hL0] at hv
   rcases List.mem_append.1 hv with h | h
   ·exact hps v h
   ·obtain ⟨c, hc, h2⟩ := List.mem_flatMap.1 h
    exact hbs c (List.mem_of_mem_take hc) v h2
  have hnext : ps ++ (bs.take (k + 1)).flatMap blkVars = L0 ++ blkVars b := by
   rw [qe hk2, List.flatMap_append, hbk, ← qf, hL0]; simp
  rw [hL0] at hM ⊢
  refine zf<|zb<|zg<|zSr<|z8 (zIM k jo jt Z Z Z hgb)<|zVGvloadWF Zq jt Z Z<|zq (cs := [.str ⟨#[]⟩, .raw (.slice none 0 0), .raw (.slice none 0 0), .int .i64 0, .int .i64 0, .int .i64 0, .int .i64 0]) Zb Z Z<|fun i7 => zm jt Z Z Z Z Z Z .head Z<|y1 (yj (t := 7) Z .head)<|z6<|zb<|zSr<|zVzFF ja Z Za Z Z<|zVzLf Zu Z<|zVGvlenM jw Z<|zVzMi Z<|z6<|zg<|y3 (γ := Nat × Nat × List (Int × AV)) [5, 7, 19, 20, 21, 26, 27] (fun g => [(28, .int .i64 g.1)]) (fun g => [(i14, .cells 57 [.own g.2.1 (seeL [] (L0 ++ (b.phis.take g.1).flatMap phiVars)).length, mref b12]), (g.2.1, .grow 1 3 (cI (seeL [] (L0 ++ (b.phis.take g.1).flatMap phiVars)))), (0, mapAO b12 g.2.2)]) (fun g => g.1 ≤ b.phis.length ∧ MapOf (seeL [] (L0 ++ (b.phis.take g.1).flatMap phiVars)) g.2.2) (fun g => b.phis.length - g.1) (0, io, es) zR1 ⟨_, (.refl _), by rw [List.take_zero, List.flatMap_nil, List.append_nil]⟩ (⟨qg _, by rw [List.take_zero, List.flatMap_nil, List.append_nil]; exact hM⟩) ?_
  rintro ⟨m, io, es⟩ ⟨hm, hM⟩
  try dsimp only at *
  refine zSr<|zVGvlss Z Z<|z6<|zb<|zr Z (fun cm=>?_) (fun cm=>?_)
  ·have hm2 : m < b.phis.length := by omega
   obtain ⟨p, hp⟩ : ∃ p, b.phis[m] = p := ⟨_, rfl⟩
   have hgp : b.phis[m]? = some p := by rw [qd hm2, hp]
   have hpm : p ∈ b.phis := hp ▸ qh hm2
   have hpl2 := (q4 p hpm).1
   have hLv : ∀ v ∈ L0 ++ (b.phis.take m).flatMap phiVars, 0 ≤ v ∧ v < (n : Int) := fun v hv => by
    rcases List.mem_append.1 hv with h | h
    ·exact hL0v v h
    ·obtain ⟨c, hc, h2⟩ := List.mem_flatMap.1 h
     exact hbv v (List.mem_append_left _ (List.mem_flatMap.2 ⟨c, List.mem_of_mem_take hc, h2⟩))
   have hSl := seen_bd hLv
   have hstep : seeL (seeL (seeL [] (L0 ++ (b.phis.take m).flatMap phiVars)) [p.dst]) p.args = seeL [] (L0 ++ (b.phis.take (m + 1)).flatMap phiVars) := by
    rw [qe hm2, List.flatMap_append, hp, ← qf, see_app [] (L0 ++ _)]
    rw [List.flatMap_cons, List.flatMap_nil, List.append_nil]; rfl
   obtain ⟨S, hS⟩ : ∃ S, seeL [] (L0 ++ (b.phis.take m).flatMap phiVars) = S := ⟨_, rfl⟩
   rw [hS] at hM hSl hstep ⊢
   have hS2 := see_len [p.dst] S
   refine zf<|zb<|zg<|zSr<|z8 (zIM m jw Z0 Z Z Z hgp)<|zVGvloadWF Zv Z0 Z Z<|zq (cs := [.int .i64 0, .raw (.slice none 0 0), .raw (.slice none 0 0)]) Zk Z Z<|fun i9 => zm Z0 Z Z Z Z Z Z .head Z<|y1 (yj (t := 9) Z .head)<|z6<|zSr<|zVzMp Z<|zVzFF jm Z jd Z Z<|zVzLi jr Z<|zl (rows := [[_]]) ps23_1 Z Z Z Z Z<|ye Z (zu (.l (.l (.l (.rest _))))) (see_spec i14 b12 io S [p.dst] es hM (by simp; omega)) ?_
   rintro r36 O36 ⟨⟨io, es⟩, rfl, rfl, hM⟩
   refine z6<|zRg<|zVzMp Z<|zVzFF jm Z jn Z Z<|zVzLf jz Z<|ye Z (zu (.l (.l (.l (.rest _))))) (see_spec i14 b12 io (seeL S [p.dst]) p.args es hM (by simp at hS2; omega)) ?_
   rintro r40 O40 ⟨⟨io, es⟩, rfl, rfl, hM⟩
   refine z6 ?_
   rw [hstep] at hM ⊢
   refine zRg<|zVzAd Z Z<|zVzMi Z<|z6 ?_
   exact ⟨(m + 1, io, es), zR7, zR1, zLe, ⟨hm2, hM⟩, by dsimp only; omega⟩
  ·obtain rfl : m = b.phis.length := by omega
   obtain ⟨L2, hL2⟩ : ∃ L2, L0 ++ (b.phis.take b.phis.length).flatMap phiVars = L2 := ⟨_, rfl⟩
   have hL2v : ∀ v ∈ L2, 0 ≤ v ∧ v < (n : Int) := fun v hv => by
    rw [← hL2, qi] at hv
    rcases List.mem_append.1 hv with h | h
    ·exact hL0v v h
    ·exact hbv v (List.mem_append_left _ h)
   rw [hL2] at hM ⊢
   refine y2<|zb<|zSr<|zVzFF ja Z Zi Z Z<|zVzLf Y1 Z<|zVGvlenM Z1 Z<|zVzMi Z<|z6<|zg<|y3 (γ := Nat × Nat × List (Int × AV)) [5, 7, 19, 20, 21, 43, 44] (fun g => [(45, .int .i64 g.1)]) (fun g => [(i14, .cells 57 [.own g.2.1 (seeL [] (L2 ++ (b.insts.take g.1).flatMap instVars)).length, mref b12]), (g.2.1, .grow 1 3 (cI (seeL [] (L2 ++ (b.insts.take g.1).flatMap instVars)))), (0, mapAO b12 g.2.2)]) (fun g => g.1 ≤ b.insts.length ∧ MapOf (seeL [] (L2 ++ (b.insts.take g.1).flatMap instVars)) g.2.2) (fun g => b.insts.length - g.1) (0, io, es) zR1 ⟨_, (.refl _), by rw [List.take_zero, List.flatMap_nil, List.append_nil]⟩ (⟨qg _, by rw [List.take_zero, List.flatMap_nil, List.append_nil]; exact hM⟩) ?_
   rintro ⟨m, io, es⟩ ⟨hm, hM⟩
   try dsimp only at *
   refine zSr<|zVGvlss Z Z<|z6<|zb<|zr Z (fun cm=>?_) (fun cm=>?_)
   ·have hm2 : m < b.insts.length := by omega
    obtain ⟨x, hx⟩ : ∃ x, b.insts[m] = x := ⟨_, rfl⟩
    have hgx : b.insts[m]? = some x := by rw [qd hm2, hx]
    have hxm : x ∈ b.insts := hx ▸ qh hm2
    have hxl := q5 x hxm
    have hLv : ∀ v ∈ L2 ++ (b.insts.take m).flatMap instVars, 0 ≤ v ∧ v < (n : Int) := fun v hv => by
     rcases List.mem_append.1 hv with h | h
     ·exact hL2v v h
     ·obtain ⟨c, hc, h2⟩ := List.mem_flatMap.1 h
      exact hbv v (List.mem_append_right _ (List.mem_append_left _ (List.mem_flatMap.2 ⟨c, List.mem_of_mem_take hc, h2⟩)))
    have hSl := seen_bd hLv
    have hstep : seeL (seeL [] (L2 ++ (b.insts.take m).flatMap instVars)) (instVars x) = seeL [] (L2 ++ (b.insts.take (m + 1)).flatMap instVars) := by
     rw [qe hm2, List.flatMap_append, hx, ← qf, see_app [] (L2 ++ _)]
     rw [List.flatMap_cons, List.flatMap_nil, List.append_nil]
    obtain ⟨S, hS⟩ : ∃ S, seeL [] (L2 ++ (b.insts.take m).flatMap instVars) = S := ⟨_, rfl⟩
    rw [hS] at hM hSl hstep ⊢
    have hS2 := see_len x.args S
    refine zf<|zb<|zg<|zSr<|z8 (zIM m Z1 Z7 Z Z Z hgx)<|zVGvloadWF Y3 Z7 Z Z<|zq (cs := [.int .i64 0, .int .i64 0, .raw (.slice none 0 0), .int .i64 0]) Zt Z Z<|fun i11 => zm Z7 Z Z Z Z Z Z .head Z<|y1 (yj (t := 11) Z .head)<|z6<|zSr<|zVzMp Z<|zVzFF jk Z jn Z Z<|zVzLf jz Z<|ye Z (zu (.l (.l (.l (.rest _))))) (see_spec i14 b12 io S x.args es hM (by omega)) ?_
    rintro r52 O52 ⟨⟨io, es⟩, rfl, rfl, hM⟩
    refine z6<|zSr<|zVzFF jk Z jd Z Z<|zVzLi jr Z<|z8 (qc Z Z)<|z6<|zr Z (fun cd=>?_) (fun cd=>?_)
    ·have hd : instVars x = x.args ++ [x.dst] := by unfold instVars; rw [if_pos (by first | exact cd | omega)]
     rw [hd, see_app] at hstep
     refine zRg<|zVzMp Z<|zVzFF jk Z jd Z Z<|zVzLi jr Z<|zl (rows := [[_]]) ps23_1 Z Z Z Z Z<|ye Z (zu (.l (.l (.l (.rest _))))) (see_spec i14 b12 io (seeL S x.args) [x.dst] es hM (by simp; omega)) ?_
     rintro r60 O60 ⟨⟨io, es⟩, rfl, rfl, hM⟩
     refine z6 ?_
     rw [hstep] at hM ⊢
     refine zRg<|zVzAd Z Z<|zVzMi Z<|z6 ?_
     exact ⟨(m + 1, io, es), zR7, zR1, zLe, ⟨hm2, hM⟩, by dsimp only; omega⟩
    ·have hd : instVars x = x.args := by unfold instVars; rw [if_neg (by first | exact cd | omega), List.append_nil]
     rw [hd] at hstep
     rw [hstep] at hM ⊢
     refine zf<|zRg<|zVzAd Z Z<|zVzMi Z<|z6 ?_
     exact ⟨(m + 1, io, es), zR7, zR1, zLe, ⟨hm2, hM⟩, by dsimp only; omega⟩
   ·obtain rfl : m = b.insts.length := by omega
    rw [qi] at hM ⊢
    have hL3v : ∀ v ∈ L2 ++ b.insts.flatMap instVars, 0 ≤ v ∧ v < (n : Int) := fun v hv => by
     rcases List.mem_append.1 hv with h | h
     ·exact hL2v v h
     ·exact hbv v (List.mem_append_right _ (List.mem_append_left _ h))
    have hSl := seen_bd hL3v
    have hstep : seeL (seeL [] (L2 ++ b.insts.flatMap instVars)) (termVars b.term) = seeL [] (ps ++ (bs.take (k + 1)).flatMap blkVars) := by
     rw [hnext, ← see_app, ← hL2, qi]
     unfold blkVars
     simp only [qf]
    obtain ⟨S, hS⟩ : ∃ S, seeL [] (L2 ++ b.insts.flatMap instVars) = S := ⟨_, rfl⟩
    rw [hS] at hM hSl hstep ⊢
    refine y2<|zSr<|zVzFF ja Z Z4 Z Z<|zVzFF je Z Zl Z Z<|zVzLi Y0 Z<|zVGvneqI Z Z<|z6<|zz Z (fun ct=>?_) (fun ct=>?_)
    ·have hd : termVars b.term = [b.term.var] := by unfold termVars; rw [if_neg (by first | exact ct | simpa using ct)]
     rw [hd] at hstep
     refine zRg<|zVzMp Z<|zVzFF ja Z Z4 Z Z<|zVzFF je Z jd Z Z<|zVzLi jr Z<|zl (rows := [[_]]) ps23_1 Z Z Z Z Z<|ye Z (zu (.l (.l (.l (.rest _))))) (see_spec i14 b12 io S [b.term.var] es hM (by simp; omega)) ?_
     rintro r71 O71 ⟨⟨io, es⟩, rfl, rfl, hM⟩
     refine z6 ?_
     rw [hstep] at hM ⊢
     refine zRg<|zVzAd Z Z<|zVzMi Z<|z6 ?_
     exact ⟨(k + 1, io, es), zR3, zR1, zLe, ⟨hk2, hM⟩, by dsimp only; omega⟩
    ·have hd : termVars b.term = [] := by unfold termVars; rw [if_pos (by first | exact ct | simpa using ct)]
     rw [hd] at hstep
     have hstep : S = seeL [] (ps ++ (bs.take (k + 1)).flatMap blkVars) := hstep
     rw [hstep] at hM ⊢
     refine zf<|zRg<|zVzAd Z Z<|zVzMi Z<|z6 ?_
     exact ⟨(k + 1, io, es), zR3, zR1, zLe, ⟨hk2, hM⟩, by dsimp only; omega⟩
 ·obtain rfl : k = bs.length := by omega
  rw [qi] at hM ⊢
  refine y2<|zSr<|zVzMp Z<|z8 (zAp Z)<|z6<|ze<|zi (x := .po _ _) Z ?_
  exact ⟨(i14, b12, io, es), rfl, ⟨_, .refl _, rfl⟩, hM⟩
end Go.Proofs.YtbkgklpihnfnjaaGreatDoor
namespace Go.Proofs.YtbkgklpihnfnjaaGreatDoor
open Go.Proofs.Tryz
open Go.Proofs
def lC (l : List Rng) : List AV := eP.av l
theorem lC_len (l : List Rng) : (lC l).length = l.length * 2 := eP.av_len l
theorem lC_push (l : List Rng) (r : Rng) : lC l ++ encZ r = lC (l ++ [r]) := eP.av_push l r
section
variable {E : World} {P : Program} {ops : Array Oper} {K : AEnv → OL → Prop} {env : AEnv} {O O' O'' : OL} {rest : List Oper} {n : Nat}
variable {d ty : Nat} {pos : String} {af : Array Edge} {x y z : Operand} {t u e T : TypeId}
theorem GStep.knowR {t i m : Nat} {T : TypeId} {l : List Rng} (hv : env t = .own i m) (hO : Pick O i (.grow 2 T (lC l)) O') (hm : l.length = m) : GStep E env O (aupd env t (.fro 2 (l.map encZ))) O' :=
 yw hv (rows := l.map encZ) (by
  have : (l.map encZ).flatten = lC l := by unfold lC Enc.av; rw [List.flatMap]; rfl
  rw [this]; exact hO) (fun r hr => by obtain ⟨_, _, rfl⟩ := List.mem_map.1 hr; rfl) (by decide) (by rw [qk]; exact hm)
end
end Go.Proofs.YtbkgklpihnfnjaaGreatDoor
namespace Go.Proofs.YtbkgklpihnfnjaaGreatDoor
open Go.Proofs.Tryz
open Go.Proofs
theorem vs_get {α : Type} [Inhabited α] (c : Enc α) : ∀ (l : List α) (t : Nat), t < l.length * c.k → (c.vs l)[t]? = some (c.val l[t / c.k]!)[t % c.k]!
 | [], t, h => by simp at h
 | x :: l, t, h => by
  have e : c.vs (x :: l) = c.val x ++ c.vs l := by unfold Enc.vs; rw [List.flatMap_cons]
  rw [e]
  by_cases ht : t < c.k
  ·rw [List.getElem?_append_left (by rw [c.len]; exact ht), Nat.div_eq_of_lt ht, Nat.mod_eq_of_lt ht, List.getElem!_cons_zero, qd (by rw [c.len]; exact ht), getElem!_pos (c.val x) t (by rw [c.len]; exact ht)]
  ·obtain ⟨s, rfl⟩ : ∃ s, t = s + c.k := ⟨t - c.k, by omega⟩
   rw [List.getElem?_append_right (by rw [c.len]; omega), c.len, Nat.add_sub_cancel, Nat.add_div_right _ c.pos, Nat.add_mod_right, List.getElem!_cons_succ]
   exact vs_get c l s (by rw [List.length_cons, Nat.add_mul, Nat.one_mul] at h; omega)
section
variable {E : World} {P : Program} {ops : Array Oper} {K : AEnv → OL → Prop} {env : AEnv} {O : OL} {rest : List Oper} {d ty : Nat} {pos : String} {af : Array Edge} {x y : Operand} {t e : TypeId}
end
end Go.Proofs.YtbkgklpihnfnjaaGreatDoor
namespace Go.Proofs.YtbkgklpihnfnjaaGreatDoor
open Go.Proofs.Tryz
open Go.Proofs
open Go.Sort (Holds putRow putCells onCells flatK HoldsK PermIn SortedIn)
theorem putCells_vs {vs ys junk : List Value} (hl : ys.length = vs.length) : putCells id 0 ys.toArray (vs ++ junk).toArray = (ys ++ junk).toArray := by
 unfold putCells
 apply Array.ext_getElem?
 intro k
 simp only [Array.getElem?_mapIdx, List.getElem?_toArray, qg, true_and, Nat.zero_add, Nat.sub_zero, List.size_toArray]
 by_cases hk : k < ys.length
 ·rw [List.getElem?_append_left (by omega), List.getElem?_append_left (by omega), qd hk, qd (by omega : k < vs.length)]
  simp [hk]
 ·rw [List.getElem?_append_right (by omega), List.getElem?_append_right (by omega), hl]
  rw [hl] at hk
  simp only [hk, if_false]
  cases junk[k - vs.length]? <;> rfl
theorem flatK_list {α : Type} [Inhabited α] (c : Enc α) (d : Array α) : flatK c.val c.k d = (c.vs d.toList).toArray := by
 refine Go.Sort.ext_get! (by simp [c.vs_len]) fun t ht => ?_
 have ht : t < d.size * c.k := by simpa using ht
 rw [Go.Sort.get_flatK _ _ _ _ ht]
 have := vs_get c d.toList t (by simpa using ht)
 have h2 : (c.vs d.toList).toArray[t]? = some (c.val d.toList[t / c.k]!)[t % c.k]! := by rw [List.getElem?_toArray]; exact this
 have h3 : (c.vs d.toList).toArray[t]! = (c.val d.toList[t / c.k]!)[t % c.k]! := by rw [getElem!_def, h2]
 rw [h3]
 have h4 : d[t / c.k]! = d.toList[t / c.k]! := by rw [getElem!_def, getElem!_def, Array.getElem?_toList]
 rw [h4]
theorem SL.sortedK {α : Type} [Inhabited α] (c : Enc α) {I : Ghost} {O : List (Nat × Obj)} {E w : World} {b n : Nat} {zs : List α} {d : Array α} {junk : List Value} {T : TypeId} {os : Array Obj} (hl : d.size = zs.length) (h : SL I ((b, .cells (c.vs zs ++ junk).toArray T (0, 0)) :: O) E w) :
  SL I ((b, .cells (c.vs d.toList ++ junk).toArray T (0, 0)) :: O) E (sortWorldK c.val c.k w b 0 n d os) := by
 have hb := h.own _ (.head _)
 simp only at hb
 have hlt := lt_of_some hb
 have h1 : SL I ((b, .cells (c.vs d.toList ++ junk).toArray T (0, 0)) :: O) E (putRow id (Go.Sort.ahead w n) b 0 (flatK c.val c.k d)) := by
  rw [flatK_list]
  refine h.turn Z Z Z ?_ fun k hk => ?_
  ·show (w.heap.modify b (onCells (putCells id 0 (c.vs d.toList).toArray)))[b]? = _
   rw [Array.getElem?_modify, if_pos rfl, hb]
   simp only [Option.map_some, onCells, putCells_vs (vs := c.vs zs) (ys := c.vs d.toList) (by rw [c.vs_len, c.vs_len, Array.length_toList, hl])]
  ·show (w.heap.modify b (onCells (putCells id 0 (c.vs d.toList).toArray)))[k]? = _
   rw [Array.getElem?_modify, if_neg (fun e => hk e.symm)]
 exact h1.more rfl rfl rfl fun k hk => Go.Sort.heap_grow_old _ _ hk
theorem ACall.sortedK {α : Type} [Inhabited α] (c : Enc α) {E : World} {P : Program} {f g : FuncId} {fn : Func} {co : Code} {lt : α → α → Bool} {B : Nat} (hf : P.funcs[f]? = some fn) (hb : fn.body = some co) (hn : fn.name ≠ "runtime.NumGoroutine")
  (hC : ∀ (blk cap : Nat) (d : Array α) (w : World), HoldsK c.val c.k w blk 0 d → blk < w.heap.size → d.size < B →
   Calls P f #[.slice (some ⟨blk, 0, none⟩) d.size cap, .func (.func g) #[] #[]] w fun e w' => e = .returned (.tuple #[]) ∧ ∃ d' n os, PermIn 0 d.size d d' ∧ SortedIn lt 0 d.size d' ∧ w' = sortWorldK c.val c.k w blk 0 n d' os)
  (hN : ∀ (cap : Nat) (w : World), Calls P f #[.slice none 0 cap, .func (.func g) #[] #[]] w fun e w' => e = .returned (.tuple #[]) ∧ w' = w)
  {l : List α} {i n : Nat} {T : TypeId} (hl : l.length = n) (hB : n < B) : ACall P E f [.own i n, .fn g [] []] [(i, .grow c.k T (c.av l))] fun r O => ∃ l' : List α, r = .tup [] ∧ O = [(i, .grow c.k T (c.av l'))] ∧ l'.Perm l ∧ l'.Pairwise fun a b => lt b a = false := fun I F w vs h1 h2 => by
 obtain ⟨v, us, rfl, ⟨b, cp, e1, rfl⟩, v2, us2, rfl, ⟨va, vc, rfl, ha, hc⟩, h3⟩ := h1
 have ha : va = [] := ha
 have hc : vc = [] := hc
 have h3 : us2 = [] := h3
 subst ha hc h3
 obtain ⟨ht, L, ⟨A, B', e2, ⟨b', c', n', ws, e3, h4, h5, h6⟩, h7⟩, hS⟩ := h2
 have h7 : B' = [] := h7
 subst h7
 rw [List.append_nil] at e2
 subst e2
 simp only at e3
 rw [e1] at e3
 simp only [Option.some.injEq, Prod.mk.injEq] at e3
 obtain ⟨rfl, rfl⟩ := e3
 have h4 := c.av_un h4
 subst h4
 refine Fn.ofCalls hf hb hn ?_
 obtain ⟨g1, g2, g3⟩ := h6
 rw [c.vs_len] at g1
 have hnn : n' = n := by
  have := Nat.eq_of_mul_eq_mul_right c.pos g1
  omega
 subst hnn
 rcases g3 with ⟨ea, rfl, rfl⟩ | ⟨b2, junk, ea, rfl, hj⟩
 ·have h0 : n' = 0 := by omega
  subst h0
  have hl0 : l = [] := qn hl
  subst hl0
  rw [ea]
  refine (hN 0 w).mono fun e w' ⟨he, hw⟩ => ⟨_, he, I, .tup [], [(i, .grow c.k T (c.av ([] : List α)))], .refl _, ⟨[], Z, Z⟩, ?_, [], Z, Z, .refl _, .nil⟩
  subst hw
  exact ⟨ht, [], ⟨[], [], rfl, ⟨b, 0, 0, [], e1, rfl, by simp, by rw [ea]; exact OwnS.nil c.k T⟩, rfl⟩, hS⟩
 ·rw [ea]
  have hS2 : SL I.k ((b2, .cells (c.vs l ++ junk).toArray T (0, 0)) :: F) E w := hS
  have hH : HoldsK c.val c.k w b2 0 l.toArray := fun j hjl => by
   rw [flatK_list] at hjl ⊢
   have hj2 : j < (c.vs l).length := by simpa using hjl
   have hbk := hS2.own _ (.head _)
   simp only at hbk
   refine ⟨?_, ?_⟩
   ·rw [hS2.cell_own, Nat.zero_add, List.getElem?_toArray, List.getElem?_append_left hj2, qd hj2]
    simp [hj2]
   ·simp [World.frozen?, hbk]
  have := hC b2 cp l.toArray w hH (lt_of_some (hS2.own _ (.head _))) (by simp; omega)
  rw [List.size_toArray, hl] at this
  refine this.mono fun e w' ⟨he, d', k, os, hp, hs, hw⟩ => ?_
  obtain ⟨p1, _, p3⟩ := hp
  have p1 : d'.size = l.length := p1
  have p4 : d'.toList.Perm l := by
   have e1 : d'.extract 0 n' = d' := by
    have : n' = d'.size := by omega
    rw [this]; exact Array.extract_size
   have e2 : l.toArray.extract 0 n' = l.toArray := by
    have : n' = l.toArray.size := by rw [List.size_toArray, hl]
    rw [this]; exact Array.extract_size
   rw [e1, e2] at p3
   exact p3
  refine ⟨_, he, I, .tup [], [(i, .grow c.k T (c.av d'.toList))], .refl _, ⟨[], Z, Z⟩, ?_, d'.toList, Z, Z, p4, ?_⟩
  ·subst hw
   refine ⟨ht, [(b2, .cells (c.vs d'.toList ++ junk).toArray T (0, 0))], ⟨_, [], by simp, ⟨b, cp, n', c.vs d'.toList, e1, by rw [c.av_eq]; exact lit_reps _ _, c.vs_one _, by rw [c.vs_len]; simp only [Array.length_toList]; rw [p1, hl], g2, .inr ⟨b2, junk, ea, rfl, by rw [qj, c.vs_len] at hj ⊢; simp only [Array.length_toList]; rw [p1]; exact hj⟩⟩, rfl⟩, ?_⟩
   exact SL.sortedK c p1 hS2
  ·rw [List.pairwise_iff_getElem]
   intro x y hx hy hxy
   have hy2 : y < d'.size := by simpa using hy
   have := hs x y (qg _) hxy (by omega)
   rw [getElem!_pos d' y hy2, getElem!_pos d' x (by omega)] at this
   simpa using this
end Go.Proofs.YtbkgklpihnfnjaaGreatDoor

namespace Go.Proofs.YtbkgklpihnfnjaaGreatDoor
open Go.Proofs.Tryz
open Go.Proofs Go.Lib Go.Shelf Go.RowKit
variable {E : World}
set_option maxRecDepth 20000
theorem right_spec (f : PFunc) (hf : small f) (hL : Letters E) : AFun prog E 30 [.agg (encF f)] (.bool (typedB f)) := by
 refine zk func30 Z (by decide) Z<|zSr<|y6 (cs := _) Z Z Z<|zVzAb Z<|z6<|zSr<|zVGvloadWF ju jj Z Z<|zd (Typed_spec f hf hL) Z<|zVGveqlI Z Z<|zVzAb Z<|z6<|ze<|zi (x := .bool _) Z ?_
 cases typedB f <;> rfl
theorem typedB_ends {f : PFunc} (h : typedB f = true) : EndsOk f := by
 unfold typedB at h
 rw [qs, shapedB_eq] at h
 exact (of_decide_eq_true h.1).ends
theorem orderO_spec (f : PFunc) (hE : EndsOk f) (hn : f.blocks.length ≤ 1000) : AFun prog E 67 [.agg (encF f)] (.fro 1 ((orderT (EndsOf f) f.blocks.length).map encI)) :=
 order_spec f hE (by omega) fun l i T h => reverse_own l i T h
theorem orderX_spec (f : PFunc) (hf : small f) (hL : Letters E) (ht : typedB f = true) : AFun prog E 37 [.agg (encF f)] (.fro 1 ((orderT (EndsOf f) f.blocks.length).map encI)) := by
 have hn := hf.2.2.1
 refine zk func37 Z (by decide) Z<|zSr<|y6 (cs := _) Z Z Z<|zVzAr Z<|z6<|zb<|zSr<|zVGvloadWF ju jj Z Z<|zd (right_spec f hf hL) Z<|zVGvnot Z<|z6<|yc Z (by rw [ht]; rfl)<|zf<|zSr<|zVGvloadWF ju jj Z Z<|zd (orderO_spec f (typedB_ends ht) (by omega)) Z<|z8 (zAf Z)<|z6<|ze<|zi (x := .fro _ _) Z ?_
 rfl
def encB (x : Bool) : List AV := [.bool x]
theorem reach_spec (f : PFunc) (hE : EndsOk f) (hn : f.blocks.length ≤ 1000) : AFun prog E 32 [.agg (encF f)] (.fro 1 ((reachB (EndsOf f) f.blocks.length).map encB)) := by
 have hG := hE.grph
 have hol := order_len hG
 refine zk func32 Z (by decide) Z<|zSr<|y6 (cs := _) Z Z Z<|zVzAr Z<|z6<|zSr<|zVzFF jc Z Z2 Z Z<|zVzLf Ze Z<|zVGvlenM jo Z<|AOps.makeB (m := f.blocks.length) Yq type4 Z Z Z Z Z (by simp) (by simp) (by show (1 : Int) * _ ≤ _; omega) (by omega)<|fun i9 => zVzAo Z<|z6<|zb<|zSr<|zVGvloadWF ju jj Z Z<|zd (orderO_spec f hE hn) Z<|zVGvlenM j9 Z<|zVzMi Z<|z6<|zg<|y3 (γ := Nat) [3, 11, 12] (fun k => [(13, .int .i64 k)]) (fun k => [(i9, .grow 1 4 (cB (setsT (List.replicate f.blocks.length false) ((orderT (EndsOf f) f.blocks.length).take k))))]) (fun k => k ≤ (orderT (EndsOf f) f.blocks.length).length) (fun k => (orderT (EndsOf f) f.blocks.length).length - k) 0 zR1 zLe (qg _) ?_
 rintro k hk
 refine zSr<|zVGvlss Z Z<|z6<|zb<|zr Z (fun ck=>?_) (fun ck=>?_)
 ·have hk2 : k < (orderT (EndsOf f) f.blocks.length).length := by simp at ck; omega
  obtain ⟨b, hb⟩ : ∃ b, (orderT (EndsOf f) f.blocks.length)[k] = b := ⟨_, rfl⟩
  have hr := order_rng hG.toEOk (hb ▸ qh hk2)
  refine zf<|zb<|zg<|zSr<|z8 (zIM k j9 jd Z Z Z (by rw [qd hk2, hb])) ?_
  refine zVzLi jr Z<|zVzAi Z<|z6<|zRg<|zVzMo Z<|zVzMi Z<|z8 (Gv.idxI (j := b.toNat) Yq Zj Z Z (by omega) ⟨_, .head⟩ (by rw [cB_len, setsT_len]; simp) (by omega))<|AOps.storeB (j := b.toNat) Zj Z Z .head (by rw [setsT_len]; simp; omega)<|z6<|zRg<|zVzAd Z Z<|zVzMi Z<|z6 ?_
  exact ⟨k + 1, zR3, zR1, ⟨_, (.refl _), by rw [qe hk2, setsT_snoc, hb]⟩, hk2, by omega⟩
 ·have hkn : k = (orderT (EndsOf f) f.blocks.length).length := by simp at ck; omega
  subst hkn
  rw [qi]
  refine y2<|zSr<|zVzMo Z<|zVzAo Z<|z6<|zt (GStep.knowB (t := 2) Z .head (by rw [setsT_len]; simp))<|ze<|zi (x := .fro _ _) Z ?_
  rfl
theorem cloneO (xs : List Int) (hl : xs.length ≤ 1000) : ACall prog E 17 [.fro 1 (xs.map encI)] [] (fun x O' => ∃ i : Nat, x = .own i xs.length ∧ O' = [(i, .grow 1 3 (cI xs))]) := by
 refine zk func17 Z (by decide) Z<|zSr<|zVzAr Z<|z6<|zb<|zSr<|zVzMf Z<|AOps.isNil j9 Z Z (fun hnil=>?_) ?_
 ·have hx : xs = [] := by simpa using hnil
  subst hx
  refine z6<|yh Z Z<|zSr<|zVzAr Z<|z6<|ze ?_
  repeat (first | refine aseqQ_ret ?_ | refine ablockQ_ret ?_)
  refine adopt_fin (s := 2) (k := 1) (T := 3) Z (fun i=>?_)
  refine zi (x := .own _ _) Z ?_
  exact ⟨i, rfl, rfl⟩
 ·refine z6<|yc Z Z<|zf<|zSr<|AOps.buildSlice0 (k := 1) j9 Yx<|fun i5 => zVzMf Z<|zy (k := 1) j9 Yx Z Z Z Z Z (fun _ => .head) (by simp) (by decide) (all_cell (fun _ => Z) xs) (by show (_ + _) * 8 ≤ _; simp <;> omega) (by simp <;> omega)<|fun i7 => zVzAo Z<|z6<|ze<|zi (x := .own _ _) Z ?_
  exact ⟨i7, (by simp), by rw [← cI_flat]; rfl⟩
theorem predsR_row (f : PFunc) {k : Nat} (h : k < f.blocks.length) : (predsR f f.blocks.length)[k]? = some (predsT (EndsOf f) f.blocks.length (k : Int)) := by unfold predsR; rw [ql, List.getElem?_range h]; rfl
theorem joined_spec (f : PFunc) (hE : EndsOk f) (hf : small f) : AFun prog E 31 [.agg (encF f)] (.bool (joinedB f)) := by
 have hn := hf.2.2.1
 refine zk func31 Z (by decide) Z<|zSr<|y6 (cs := _) Z Z Z<|zVzAb Z<|z6<|zSr<|zVGvloadWF ju jj Z Z<|zd (preds_spec f hE (by omega)) Z<|z8 (zAf Z)<|z6<|zb<|zSr<|zVzFF jc Z Z2 Z Z<|zVzLf Ze Z<|zVGvlenM jo Z<|zVzMi Z<|z6<|zg<|y3 (γ := Nat) [3, 12, 13] (fun k => [(14, .int .i64 k)]) (fun k => []) (fun k => k ≤ f.blocks.length ∧ (List.range k).all (blkJ f) = true) (fun k => f.blocks.length - k) 0 zR1 zLe (⟨qg _, Z⟩) ?_
 rintro k ⟨hk, hall⟩
 refine zSr<|zVGvlss Z Z<|z6<|zb<|zr Z (fun ck=>?_) (fun ck=>?_)
 ·have hk2 : k < f.blocks.length := by simp at ck; omega
  obtain ⟨b, hbk⟩ : ∃ b, f.blocks[k] = b := ⟨_, rfl⟩
  have hget : f.blocks[k]? = some b := by rw [qd hk2, hbk]
  obtain ⟨hb0, hb1, hb2, hb3, hb4⟩ := hf.2.2.2.2 b (hbk ▸ qh hk2)
  refine zf<|zb<|zg<|zSr<|zVzMi Z<|z8 (zIM k jo jt Z Z Z hget)<|zVGvloadWF Zq jt Z Z<|zq (cs := [.str ⟨#[]⟩, .raw (.slice none 0 0), .raw (.slice none 0 0), .int .i64 0, .int .i64 0, .int .i64 0, .int .i64 0]) Zb Z Z<|fun i5 => zVzAi Z<|zm jt Z Z Z Z Z Z .head Z<|y1 (yj (t := 5) Z .head)<|z6<|zSr<|zVzFF ja Z Za Z Z<|zVzLf Zu Z<|zVGvlenM jw Z<|zVzMi Z<|z6<|zg<|y3 (γ := Nat) [3, 4, 12, 13, 14, 20, 21] (fun j => [(22, .int .i64 j)]) (fun j => []) (fun j => j ≤ b.phis.length ∧ (b.phis.take j).all (phJ f k) = true) (fun j => b.phis.length - j) 0 zR1 zLe (⟨qg _, Z⟩) ?_
  rintro j ⟨hj, hjall⟩
  refine zSr<|zVGvlss Z Z<|z6<|zb<|zr Z (fun cj=>?_) (fun cj=>?_)
  ·have hj2 : j < b.phis.length := by simp at cj; omega
   have hpf := (hb3 _ (qh hj2)).2
   refine zf<|zb<|zg<|zSr<|z8 (zIM j jw Z0 Z Z Z (qd hj2))<|zVGvloadWF Zv Z0 Z Z<|zq (cs := [.int .i64 0, .raw (.slice none 0 0), .raw (.slice none 0 0)]) Zk Z Z<|fun i7 => zm Z0 Z Z Z Z Z Z .head Z<|y1 (yj (t := 7) Z .head)<|z6<|zSr<|zVzFF jm Z jn Z Z<|zVzLf jz Z<|ye Z (zu (.rest _)) (cloneO b.phis[j].from_ hpf) ?_
   rintro r28 O28 ⟨i8, rfl, rfl⟩
   refine zVzAo Z<|z6<|zSr<|zVzMo Z<|ye Z (zu (.l (.rest _))) (sort_own b.phis[j].from_ i8 _ (by omega)) ?_
   rintro r30 O30 ⟨rfl, rfl⟩
   refine z6<|zt (GStep.knowI (t := 8) Z .head (by rw [(sortI_perm _).length_eq]))<|zSr<|zVzMf Z<|zVzMf Z<|zVzMi Z<|z8 (zIM k underlying76 jn Z Z Z (predsR_row f hk2))<|zVzLf jz Z<|zd (equalI_spec (sortI b.phis[j].from_) (predsT (EndsOf f) f.blocks.length (k : Int)) (by unfold okL; rw [(sortI_perm _).length_eq]; omega)) Z<|zVGvnot Z<|z6<|zz Z (fun cq=>?_) (fun cq=>?_)
   ·refine zSr<|zVzAb Z<|z6<|ze<|zi (x := .bool _) Z ?_
    rw [show joinedB f = false from range_all_bad hk2 (by rw [blkJ_at hget]; exact Bool.eq_false_iff.2 (all_bad hj2 (by simpa [phJ] using cq)))]
   ·refine zf<|zRg<|zVzAd Z Z<|zVzMi Z<|z6 ?_
    exact ⟨j + 1, zR7, zR1, zLe, ⟨hj2, all_take hj2 hjall (by simpa [phJ] using cq)⟩, by omega⟩
  ·have hjn : j = b.phis.length := by simp at cj; omega
   subst hjn
   rw [qi] at hjall
   refine y2<|zRg<|zVzAd Z Z<|zVzMi Z<|z6 ?_
   exact ⟨k + 1, zR3, zR1, zLe, ⟨hk2, range_all_succ hall (by rw [blkJ_at hget]; exact hjall)⟩, by omega⟩
 ·have hkn : k = f.blocks.length := by simp at ck; omega
  subst hkn
  refine y2<|zSr<|zVzAb Z<|z6<|ze<|zi (x := .bool _) Z ?_
  rw [show joinedB f = true from hall]
theorem joinedX_spec (f : PFunc) (hf : small f) (hL : Letters E) : AFun prog E 13 [.agg (encF f)] (.int .i64 (if (typedB f && joinedB f) = true then 0 else 3)) := by
 refine zk func13 Z (by decide) Z<|zSr<|y6 (cs := _) Z Z Z<|zVzAi Z<|z6<|zb<|zSr<|zVGvloadWF ju jj Z Z<|zd (right_spec f hf hL) Z<|zVGvnot Z<|zVzMb Z<|zo (s := 6) Z (fun ct=>?_) (fun ct=>?_)
 ·refine z7 Z Z ct<|z7 Z Z ct<|z7 Z Z ct<|zVzPt Z ct Z<|z6<|yh Z Z<|zSr<|zVzAi Z<|z6<|ze<|zi (x := .int _ _) Z ?_
  rw [show typedB f = false by simpa using ct]; rfl
 ·have ht : typedB f = true := by simpa using ct
  refine za Z Z ct<|zVGvloadWF ju jj Z Z<|za Z Z ct<|zd (joined_spec f (typedB_ends ht) hf) Z<|za Z Z ct<|zVGvnot Z<|zVzPf Z ct Z<|z6<|zz Z (fun cj=>?_) (fun cj=>?_)
  ·refine zSr<|zVzAi Z<|z6<|ze<|zi (x := .int _ _) Z ?_
   rw [show joinedB f = false by simpa using cj]; simp
  ·refine zf<|zSr<|zVzAi Z<|z6<|ze<|zi (x := .int _ _) Z ?_
   rw [ht, show joinedB f = true by simpa using cj]; rfl
end Go.Proofs.YtbkgklpihnfnjaaGreatDoor
namespace Go.Proofs.YtbkgklpihnfnjaaGreatDoor
open Go.Proofs.Tryz
section
variable {S : Int → List Int} {at_ : Int → Int} {V : List Int} {N : Int → Int}
end
section
variable {S : Int → List Int} {at_ V : List Int} {preds : Int → List Int} {n : Nat}
end
section
variable {E : Int → List Int} {n : Nat}
end
end Go.Proofs.YtbkgklpihnfnjaaGreatDoor
namespace Go.Proofs.YtbkgklpihnfnjaaGreatDoor
open Go.Proofs.Tryz
open Go.Proofs
variable {E : World}
set_option maxRecDepth 20000
end Go.Proofs.YtbkgklpihnfnjaaGreatDoor
namespace Go.Proofs.YtbkgklpihnfnjaaGreatDoor
open Go.Proofs.Tryz
open Go.Proofs
variable {E : World}
set_option maxRecDepth 20000
end Go.Proofs.YtbkgklpihnfnjaaGreatDoor
namespace Go.Proofs.YtbkgklpihnfnjaaGreatDoor
open Go.Proofs.Tryz
section
variable {E : World} {P : Program} {env : AEnv} {O O' O'' : OL}
variable {d ty : Nat} {pos : String} {af : Array Edge} {x y z : Operand} {t u e T : TypeId}
end
end Go.Proofs.YtbkgklpihnfnjaaGreatDoor
namespace Go.Proofs.YtbkgklpihnfnjaaGreatDoor
open Go.Proofs.Tryz
open Go.Proofs
variable {E : World}
set_option maxRecDepth 20000
section
variable {S : Int → List Int} {n : Nat} (hG : Grph S n)
include hG
end
end Go.Proofs.YtbkgklpihnfnjaaGreatDoor
namespace Go.Proofs.YtbkgklpihnfnjaaGreatDoor
open Go.Proofs.Tryz
open Go.Proofs
variable {E : World}
set_option maxRecDepth 20000
section
variable {S : Int → List Int} {n : Nat} (hG : Grph S n)
include hG
end
end Go.Proofs.YtbkgklpihnfnjaaGreatDoor
namespace Go.Proofs.YtbkgklpihnfnjaaGreatDoor
open Go.Proofs.Tryz
open Go.Proofs Go.Lib Go.Shelf Go.RowKit
variable {E : World}
set_option maxRecDepth 20000
end Go.Proofs.YtbkgklpihnfnjaaGreatDoor
namespace Go.Proofs.YtbkgklpihnfnjaaGreatDoor
open Go.Proofs.Tryz
open Go.Proofs Go.Lib Go.Shelf Go.RowKit
variable {E : World}
set_option maxRecDepth 20000
end Go.Proofs.YtbkgklpihnfnjaaGreatDoor
namespace Go.Proofs.YtbkgklpihnfnjaaGreatDoor
open Go.Proofs.Tryz
open Go.Proofs Go.Lib Go.Shelf Go.RowKit
variable {E : World}
set_option maxRecDepth 20000
end Go.Proofs.YtbkgklpihnfnjaaGreatDoor
namespace Go.Proofs.YtbkgklpihnfnjaaGreatDoor
open Go.Proofs.Tryz
open Go.Proofs Go.Lib Go.Shelf Go.RowKit
variable {E : World}
set_option maxRecDepth 20000
end Go.Proofs.YtbkgklpihnfnjaaGreatDoor
