/- How the program's machine begins, what it came to, a run. Of programs and inputs that are little. -/
import Derived.Test.YtoicilchhkndmaaGreatDoorJd
import Derived.Test.YtoicilchhkndmaaGreatDoorJc
import Derived.Test.YtoicilchhkndmaaGreatDoorJh
import Derived.Test.YtoicilchhkndmaaGreatDoorJe
set_option linter.unusedVariables false
set_option linter.unusedSimpArgs false
set_option linter.unusedSectionVars false
namespace Go.Proofs.YtoicilchhkndmaaGreatDoor
open Go.Proofs.Tryz
def alikeG (a b : GS) : Bool := decide (a.en = b.en ∧ a.val = b.val ∧ a.tr = b.tr ∧ a.trace = b.trace)
def in64 (i : PIn) : Prop := (∀ a ∈ i.args, is64 a.int) ∧ ∀ r ∈ i.arrays, ∀ x ∈ r, is64 x
end Go.Proofs.YtoicilchhkndmaaGreatDoor
namespace Go.Proofs.YtoicilchhkndmaaGreatDoor
open Go.Proofs.Tryz
open Go.Proofs Go.Lib
theorem shaped_run {f : PFunc} (h : ShapedP f) (h64 : ∀ b ∈ f.blocks, ∀ x ∈ b.insts, is64 x.num) : RunP f := by
 have h1 := h.1
 unfold bad1 at h1
 simp only [Bool.or_eq_false_iff, decide_eq_false_iff_not] at h1
 obtain ⟨_, _, _, _, _, h6⟩ := h
 exact ⟨by omega, fun b hb => (h6 b hb).1, fun b hb x hx => ⟨instP_F ((h6 b hb).2.1 x hx), h64 b hb x hx⟩, fun b hb => (h6 b hb).2.2⟩
theorem shaped_pars {f : PFunc} (h : ShapedP f) : f.params.length ≤ f.vars.length := by
 have h1 := h.1
 unfold bad1 at h1
 simp only [Bool.or_eq_false_iff, decide_eq_false_iff_not] at h1
 omega
end Go.Proofs.YtoicilchhkndmaaGreatDoor
namespace Go.Proofs.YtoicilchhkndmaaGreatDoor
open Go.Proofs.Tryz
structure PInv (f : PFunc) (n : Nat) (s : PS) : Prop where
 lv : s.v.length = f.vars.length
 i64 : ∀ a ∈ s.v, is64 a.int
 r64 : ∀ r ∈ s.rows, ∀ x ∈ r, is64 x
 lr : ∀ r ∈ s.rows, r.length ≤ 64
 ck : s.ck.length = 8
 c0 : ∀ x ∈ s.ck, 0 ≤ x ∧ x ≤ n
 lt : s.trace.length ≤ 4096
 b0 : 0 ≤ s.blk
 b1 : s.blk < f.blocks.length
 pc : s.pc ≤ (blkG f s.blk).insts.length
section
variable {f : PFunc} {n : Nat} {s : PS}
theorem PInv.mono (h : PInv f n s) {m : Nat} (hm : n ≤ m) : PInv f m s := ⟨h.lv, h.i64, h.r64, h.lr, h.ck, fun x hx => ⟨(h.c0 x hx).1, by have := (h.c0 x hx).2; omega⟩, h.lt, h.b0, h.b1, h.pc⟩
theorem PInv.fin (h : PInv f n s) (e : Int) : PInv f n (endP s e) := ⟨h.lv, h.i64, h.r64, h.lr, h.ck, h.c0, h.lt, h.b0, h.b1, h.pc⟩
theorem PInv.put (h : PInv f n s) {d : Int} {a : PArg} (ha : is64 a.int) : PInv f n (putP s d a) := by
 unfold putP; split
 ·exact ⟨by simp [h.lv], fun b hb => (List.mem_or_eq_of_mem_set hb).elim (h.i64 b) (fun e => e ▸ ha), h.r64, h.lr, h.ck, h.c0, h.lt, h.b0, h.b1, h.pc⟩
 ·exact h
theorem PInv.ite {c : Prop} [Decidable c] {a b : PS} (h1 : c → PInv f n a) (h2 : ¬ c → PInv f n b) : PInv f n (if c then a else b) := by
 split
 ·exact h1 ‹_›
 ·exact h2 ‹_›
theorem is64_0 : is64 0 := ⟨by decide, by decide⟩
theorem tmod_64 {a b : Int} (h : is64 a) : is64 (a.tmod b) := by
 unfold is64 at *
 have h1 := Int.natAbs_tmod a b
 have h2 := Nat.mod_le a.natAbs b.natAbs
 rcases Int.le_total 0 a with h0 | h0
 ·have h3 := Int.tmod_nonneg b h0
  omega
 ·have h3 := Int.tmod_nonneg b (show 0 ≤ -a by omega)
  rw [Int.neg_tmod] at h3
  omega
theorem argv_64 (h : ∀ a ∈ s.v, is64 a.int) (v : Int) : is64 (argv s v).int := by
 unfold argv
 cases e : s.v[v.toNat]? with
 | none => exact is64_0
 | some a => exact h a (List.mem_of_getElem? e)
theorem rowP_mem {a : Int} (h : hasP s a = true) : rowP s a ∈ s.rows := by
 have := of_decide_eq_true h
 unfold rowP; rw [q3 (by omega)]; exact q6 _
theorem PInv.rowsSet (h : PInv f n s) {l : List (List Int)} (h1 : ∀ r ∈ l, ∀ x ∈ r, is64 x) (h2 : ∀ r ∈ l, r.length ≤ 64) : PInv f n { s with rows := l } := ⟨h.lv, h.i64, h1, h2, h.ck, h.c0, h.lt, h.b0, h.b1, h.pc⟩
theorem PInv.make (h : PInv f n s) {x : PInst} (hx : is64 x.num) {a b c : PArg} (ha : is64 a.int) (hc : is64 c.int) : PInv f n (makeP s x a b c) := by
 unfold makeP
 repeat' (with_reducible refine PInv.ite (fun e=>?_) (fun e=>?_))
 all_goals first
  | exact h.fin _
  | exact h.put hx
  | exact h.put ha
  | exact h.put (wrap_64 _)
  | exact h.put is64_0
  | exact h.put (tmod_64 ha)
  | skip
 ·refine h.put ?_
  have := h.lr _ (rowP_mem e)
  show is64 ((rowP s a.arr).length : Int)
  unfold is64; omega
 ·refine h.put (vi_64 ?_)
  unfold placeP at e
  simp only [q9] at e
  exact h.r64 _ (rowP_mem e.1)
 ·have e2 := e
  unfold placeP at e2
  simp only [q9] at e2
  refine PInv.put (h.rowsSet (fun r hr => ?_) (fun r hr => ?_)) is64_0
  ·rcases List.mem_or_eq_of_mem_set hr with hr | hr
   ·exact h.r64 r hr
   ·intro y hy
    rw [hr] at hy
    rcases List.mem_or_eq_of_mem_set hy with hy | hy
    ·exact h.r64 _ (rowP_mem e2.1) y hy
    ·rw [hy]; exact hc
  ·rcases List.mem_or_eq_of_mem_set hr with hr | hr
   ·exact h.lr r hr
   ·rw [hr, List.length_set]; exact h.lr _ (rowP_mem e2.1)
 ·refine PInv.put (h.rowsSet (fun r hr => ?_) (fun r hr => ?_)) is64_0
  ·rcases List.mem_append.1 hr with hr | hr
   ·exact h.r64 r hr
   ·intro y hy
    rw [List.mem_singleton.1 hr] at hy
    rw [(List.mem_replicate.1 hy).2]; exact is64_0
  ·rcases List.mem_append.1 hr with hr | hr
   ·exact h.lr r hr
   ·rw [List.mem_singleton.1 hr, List.length_replicate]; omega
 ·exact ⟨h.lv, h.i64, h.r64, h.lr, h.ck, h.c0, by simp only [q8, List.length_singleton]; omega, h.b0, h.b1, h.pc⟩
theorem vi_le (h : ∀ x ∈ s.ck, 0 ≤ x ∧ x ≤ (n : Int)) (t : Int) : 0 ≤ vi s.ck t ∧ vi s.ck t ≤ n := by
 unfold vi
 cases e : s.ck[t.toNat]? with
 | none => exact ⟨by decide, by simp⟩
 | some x => exact h x (List.mem_of_getElem? e)
theorem PInv.bump (h : PInv f n s) (t : Nat) : PInv f (n + 1) (bumpP s t) := by
 have hv := vi_le h.c0 t
 refine ⟨h.lv, h.i64, h.r64, h.lr, by show (s.ck.set t _).length = 8; rw [List.length_set]; exact h.ck, fun x hx => ?_, h.lt, h.b0, h.b1, h.pc⟩
 rcases List.mem_or_eq_of_mem_set hx with hx | hx
 ·have := h.c0 x hx; omega
 ·rw [hx]; omega
theorem PInv.inst (h : PInv f n s) {x : PInst} (hx : is64 x.num) : PInv f (n + 1) (instP' s x) := by
 have ha := fun v => argv_64 h.i64 v
 unfold instP'
 refine PInv.ite (fun e => PInv.ite (fun _ => h.bump _) (fun _=>?_)) (fun e => (h.make hx (ha _) (ha _)).mono (Nat.le_succ _))
 have h2 := h.bump (x.op - 17).toNat
 exact PInv.fin (s := { bumpP s (x.op - 17).toNat with tr := x.op - 17 }) ⟨h2.lv, h2.i64, h2.r64, h2.lr, h2.ck, h2.c0, h2.lt, h2.b0, h2.b1, h2.pc⟩ 1
theorem phis_len (g : PPhi → PArg) : ∀ (ps : List PPhi) (l : List PArg), (ps.foldl (fun l p => l.set p.dst.toNat (g p)) l).length = l.length
 | [], _ => rfl
 | p :: ps, l => by rw [List.foldl_cons, phis_len g ps, List.length_set]
theorem phis_64 (g : PPhi → PArg) (hg : ∀ p, is64 (g p).int) : ∀ (ps : List PPhi) (l : List PArg), (∀ a ∈ l, is64 a.int) → ∀ a ∈ ps.foldl (fun l p => l.set p.dst.toNat (g p)) l, is64 a.int
 | [], _, h => h
 | p :: ps, l, h => by
  rw [List.foldl_cons]
  refine phis_64 g hg ps _ fun a ha => ?_
  rcases List.mem_or_eq_of_mem_set ha with ha | ha
  ·exact h a ha
  ·rw [ha]; exact hg p
theorem PInv.enter (h : PInv f n s) {dst_ : Int} (h0 : 0 ≤ dst_) (h1 : dst_ < f.blocks.length) : PInv f n (enterP f s dst_) := by
 unfold enterP
 refine PInv.ite (fun _=>?_) (fun _=>?_)
 ·refine ⟨?_, ?_, h.r64, h.lr, h.ck, h.c0, h.lt, h0, h1, q5 _⟩
  ·show (phisP s _).v.length = _
   unfold phisP
   exact (phis_len (fun p => argv s (phiAt p s.blk)) _ _).trans h.lv
  ·show ∀ a ∈ (phisP s _).v, _
   unfold phisP
   exact phis_64 (fun p => argv s (phiAt p s.blk)) (fun p => argv_64 h.i64 _) _ _ h.i64
 ·exact PInv.fin (s := { s with blk := dst_, pc := 0 }) ⟨h.lv, h.i64, h.r64, h.lr, h.ck, h.c0, h.lt, h0, h1, q5 _⟩ 2
theorem PInv.step (hR : RunP f) (h : PInv f n s) : PInv f (n + 1) (stepP f s) := by
 unfold stepP
 split
 ·rename_i x hx
  obtain ⟨hi, h64⟩ := hR.insts _ (blk_mem h.b0 h.b1) x (List.mem_of_getElem? hx)
  obtain ⟨hp, _⟩ := List.getElem?_eq_some_iff.1 hx
  exact PInv.inst (s := { s with st := s.st + 1, pc := s.pc + 1 }) ⟨h.lv, h.i64, h.r64, h.lr, h.ck, h.c0, h.lt, h.b0, h.b1, hp⟩ h64
 ·have h2 : PInv f n { s with st := s.st + 1 } := ⟨h.lv, h.i64, h.r64, h.lr, h.ck, h.c0, h.lt, h.b0, h.b1, h.pc⟩
  have ht := hR.term _ (blk_mem h.b0 h.b1)
  refine PInv.mono ?_ (Nat.le_succ n)
  unfold termP
  refine PInv.ite (fun e => have h3 := term_to ht (show ¬ (blkG f s.blk).term.kind = 2 by have : (blkG f s.blk).term.kind = 0 := e; omega); h2.enter h3.1.1 h3.1.2) (fun e => PInv.ite (fun e2=>?_) (fun e2=>?_))
  ·have h3 := term_to ht (show ¬ (blkG f s.blk).term.kind = 2 by have : (blkG f s.blk).term.kind = 1 := e2; omega)
   exact PInv.ite (fun _ => h2.enter h3.1.1 h3.1.2) (fun _ => h2.enter (h3.2 e).2.1 (h3.2 e).2.2)
  ·exact PInv.fin (s := { s with st := s.st + 1, val := _ }) ⟨h.lv, h.i64, h.r64, h.lr, h.ck, h.c0, h.lt, h.b0, h.b1, h.pc⟩ 0
structure PEnd (s : PS) : Prop where
 run : s.ended = false → s.en = 3
 en : 0 ≤ s.en ∧ s.en ≤ 3
theorem PEnd.fin {s : PS} (e : Int) (h : 0 ≤ e ∧ e ≤ 3) : PEnd (endP s e) := ⟨fun h => (by cases h), h⟩
theorem PEnd.of {s t : PS} (h : PEnd s) (h1 : t.en = s.en) (h2 : t.ended = s.ended) : PEnd t := ⟨fun g => by rw [h1]; exact h.run (h2 ▸ g), by rw [h1]; exact h.en⟩
theorem PEnd.ite {c : Prop} [Decidable c] {a b : PS} (h1 : PEnd a) (h2 : PEnd b) : PEnd (if c then a else b) := by split <;> assumption
theorem put_en (s : PS) (d : Int) (a : PArg) : (putP s d a).en = s.en ∧ (putP s d a).ended = s.ended := by unfold putP; split <;> exact ⟨rfl, rfl⟩
theorem PEnd.make {s : PS} (h : PEnd s) (x : PInst) (a b c : PArg) : PEnd (makeP s x a b c) := by
 unfold makeP
 repeat' with_reducible apply PEnd.ite
 all_goals first
  | exact PEnd.fin _ (by decide)
  | exact h.of (put_en _ _ _).1 (put_en _ _ _).2
  | exact h.of ((put_en _ _ _).1.trans rfl) ((put_en _ _ _).2.trans rfl)
  | exact h.of rfl rfl
theorem PEnd.enter {s : PS} (h : PEnd s) (f : PFunc) (dst_ : Int) : PEnd (enterP f s dst_) := by
 unfold enterP
 exact PEnd.ite (h.of rfl rfl) (PEnd.fin _ (by decide))
theorem PEnd.step {s : PS} (h : PEnd s) (f : PFunc) : PEnd (stepP f s) := by
 unfold stepP
 split
 ·unfold instP'
  exact PEnd.ite (PEnd.ite (h.of rfl rfl) (PEnd.fin _ (by decide))) ((h.of (t := { s with st := s.st + 1, pc := s.pc + 1 }) rfl rfl).make _ _ _ _)
 ·have h2 : PEnd { s with st := s.st + 1 } := h.of rfl rfl
  unfold termP
  exact PEnd.ite (h2.enter _ _) (PEnd.ite (PEnd.ite (h2.enter _ _) (h2.enter _ _)) (PEnd.fin _ (by decide)))
theorem PEnd.runs (f : PFunc) : ∀ (k : Nat) (s : PS), PEnd s → PEnd (runP f k s)
 | 0, _, h => h
 | k + 1, s, h => by
  unfold runP; split
  ·exact h
  ·exact PEnd.runs f k _ (h.step f)
theorem PInv.runs (hR : RunP f) : ∀ (k n : Nat) (s : PS), PInv f n s → PInv f (n + k) (runP f k s)
 | 0, _, _, h => h
 | k + 1, n, s, h => by
  unfold runP; split
  ·exact h.mono (by omega)
  ·have := PInv.runs hR k (n + 1) _ (h.step hR)
   rwa [Nat.add_assoc, Nat.add_comm 1 k] at this
end
theorem inst_mk {f : PFunc} {s : PS} {x : PInst} (hx : InstF f x) (he : s.ended = false) (h1 : ¬ (18 ≤ x.op ∧ x.op ≤ 24)) (h2 : x.op ≠ 17) {l : List PArg} (hl : l = x.args.map (argv s)) :
  instP' s x = (if mkOk s.rows x.op ((l[0]?).getD zA) ((l[1]?).getD zA) = true then
   (if 0 ≤ x.dst ∧ (mkS s x.op ((l[0]?).getD zA) ((l[1]?).getD zA) ((l[2]?).getD zA)).ended = false then
    { mkS s x.op ((l[0]?).getD zA) ((l[1]?).getD zA) ((l[2]?).getD zA) with v := s.v.set x.dst.toNat (mkV s.rows x.op x.num ((l[0]?).getD zA) ((l[1]?).getD zA)) }
    else mkS s x.op ((l[0]?).getD zA) ((l[1]?).getD zA) ((l[2]?).getD zA))
   else endP (mkS s x.op ((l[0]?).getD zA) ((l[1]?).getD zA) ((l[2]?).getD zA)) 2) := by
 have hop := hx.op
 have hc := hx.argc
 unfold instP'
 rw [if_neg h1]
 obtain ⟨op, dst, args, num⟩ := x
 simp only at hop hc h1 h2 hl ⊢
 rcases op19 hop h1 h2 with e | e | e | e | e | e | e | e | e | e | e | e | e | e | e | e | e | e | e <;> subst e
 all_goals (rcases args with _ | ⟨a0, _ | ⟨a1, _ | ⟨a2, _ | ⟨a3, t⟩⟩⟩⟩ <;> simp at hc)
 all_goals subst hl
 all_goals simp [makeP, mkOk, mkV, mkS, numR, numOk, appR, appOk, cmpR, arrRes, arrOk, arrRows, storedR, freshA, freshS, putP, endP, ar0, ar1, ar2, he, hasP, hasR, placeP, placeR, rowP, rwR]
 all_goals (split <;> first | (simp_all; done) | (split <;> simp_all))
end Go.Proofs.YtoicilchhkndmaaGreatDoor
namespace Go.Proofs.YtoicilchhkndmaaGreatDoor
open Go.Proofs.Tryz
open Go.Proofs Go.Lib Go.Shelf Go.RowKit
variable {E : World}
set_option maxRecDepth 20000
theorem takes_args {f : PFunc} {s : PS} {x : PInst} (hx : InstF f x) : (x.args.map (argv s)).length = (takesL x.op).length := by
 rw [List.length_map]; exact hx.len
theorem arg_in {f : PFunc} {n : Nat} {s : PS} {x : PInst} (hx : InstF f x) (hp : PInv f n s) : ∀ v ∈ x.args, v < s.v.length ∧ 0 ≤ v := fun v hv => by
 rw [hp.lv]; exact has_lt (hx.args v hv)
theorem mkS_v (s : PS) (op : Int) (a b c : PArg) : (mkS s op a b c).v = s.v := by
 unfold mkS freshS endP
 repeat' split
 all_goals rfl
theorem mkS_tr (s : PS) (op : Int) (a b c : PArg) : (mkS s op a b c).trace = s.trace := by
 unfold mkS freshS endP
 repeat' split
 all_goals rfl
theorem dst_lt2 {f : PFunc} {x : PInst} (hx : InstF f x) (h : 0 ≤ x.dst) : x.dst < f.vars.length := by
 rcases hx.dst with ⟨_, e⟩ | ⟨_, _, e⟩
 ·omega
 ·exact (has_lt e).1
theorem chk_eq {f : PFunc} {s : PS} {x : PInst} (hx : InstF f x) (c : 18 ≤ x.op ∧ x.op ≤ 24) {l : List PArg} (hl : l = x.args.map (argv s)) :
  instP' s x = (if passP (bumpP s (x.op - 17).toNat) x.op ((l[0]?).getD zA) ((l[1]?).getD zA) = true then bumpP s (x.op - 17).toNat else endP { bumpP s (x.op - 17).toNat with tr := x.op - 17 } 1) := by
 have hc := hx.argc
 unfold instP'
 rw [if_pos c]
 obtain ⟨op, dst, args, num⟩ := x
 simp only at hc c hl ⊢
 have hop7 : op = 18 ∨ op = 19 ∨ op = 20 ∨ op = 21 ∨ op = 22 ∨ op = 23 ∨ op = 24 := by omega
 rcases hop7 with e | e | e | e | e | e | e <;> subst e
 all_goals (rcases args with _ | ⟨a0, _ | ⟨a1, _ | ⟨a2, t⟩⟩⟩ <;> simp at hc)
 all_goals subst hl
 all_goals simp [passP, ar0, ar1]
theorem wr_eq {f : PFunc} {s : PS} {x : PInst} (hx : InstF f x) (c : x.op = 17) {a : PArg} (hl : [a] = x.args.map (argv s)) : instP' s x = writeS s a.int := by
 have hc := hx.argc
 unfold instP'
 obtain ⟨op, dst, args, num⟩ := x
 simp only at hc c hl ⊢
 subst c
 rw [if_neg (by decide)]
 rcases args with _ | ⟨a0, _ | ⟨a1, t⟩⟩ <;> simp at hl
 subst hl
 rfl
set_option maxHeartbeats 8000000 in
theorem sinst_spec (f : PFunc) (iw jv jh jo jt : Nat) (ids : List Nat) (s : PS) (x : PInst) (n : Nat) (hn : n ≤ 1000000) (hids : ids.length = s.rows.length) (hp : PInv f n s) (hx : InstF f x) (he : s.ended = false) : ACall prog E 25 [.po iw 0, .agg (encInst x)] (sO f iw jv jh jo jt ids s) (fun y O => ∃ jo' jt' ids', ids'.length = (instP' s x).rows.length ∧ y = .tup [] ∧ O = sO f iw jv jh jo' jt' ids' (instP' s x)) := by
 have hop := hx.op
 have hin := arg_in hx hp
 have hla : x.args.length ≤ 1000000 := by
  have := hx.argc
  have h3 : ∀ j : Nat, (([0, 1, 2, 2, 2, 2, 2, 2, 2, 2, 1, 2, 1, 2, 3, 1, 0, 1, 2, 1, 1, 2, 2, 2, 1, 2, 2] : List Nat)[j]?).getD 0 ≤ 3 := fun j => by
   by_cases hj : j < 27
   ·exact (show ∀ j : Nat, j < 27 → (([0, 1, 2, 2, 2, 2, 2, 2, 2, 2, 1, 2, 1, 2, 3, 1, 0, 1, 2, 1, 1, 2, 2, 2, 1, 2, 2] : List Nat)[j]?).getD 0 ≤ 3 by decide) j hj
   ·rw [List.getElem?_eq_none (by simpa using hj)]; decide
  have := h3 x.op.toNat
  omega
 obtain ⟨l, hl⟩ : ∃ l, l = x.args.map (argv s) := ⟨_, rfl⟩
 have hll : l.length = (takesL x.op).length := by rw [hl]; exact takes_args hx
 have hl64 : ∀ a ∈ l, is64 a.int := fun a ha => by
  rw [hl] at ha
  obtain ⟨v, _, rfl⟩ := List.mem_map.1 ha
  exact argv_64 hp.i64 v
 have hag := sargs_spec (E := E) f iw jv jh jo jt ids s x.args hin hla
 rw [← hl] at hag
 have hcb : ∀ q ∈ s.ck, 0 ≤ q ∧ q ≤ 1000000000 := fun q hq => by have := hp.c0 q hq; omega
 refine zn func25 Z (by decide) Z<|zSr<|zz (cs := _) Z Z Z<|z6<|zSr<|zVzMp Z<|zVzFF j2 Z ju Z Z<|zVzLf Z1 Z<|y7 Z (zr (.l (.l (.l (.l (.l (.l (.rest _)))))))) (hag) ?_
 rintro r10 O10 ⟨rfl, rfl⟩
 refine z7 (zAf Z)<|z6<|zc<|zi<|zSr<|zVzFF j2 Z jg Z Z<|zVzLi jl Z<|zd (chkOp_spec x.op) Z<|zVzAb Z<|z6<|yb Z (fun c=>?_) (fun c=>?_)
 ·have c : 18 ≤ x.op ∧ x.op ≤ 24 := by simpa using c
  have hck := scheck_spec (E := E) f iw jv jh jo jt ids s x.op l c hll hids hl64 hp.ck hcb
  refine zSr<|zVzMp Z<|zVzFF j2 Z jg Z Z<|zVzLi jl Z<|zVzMf Z<|y7 Z (zr (.l (.l (.l (.l (.l (.l (.rest _)))))))) (hck) ?_
  rintro r19 O19 ⟨rfl, rfl⟩
  refine z6<|ze<|yp ?_
  exact ⟨jo, jt, ids, by rw [chk_eq hx c hl]; split <;> exact hids, rfl, by rw [chk_eq hx c hl]; exact List.append_nil _⟩
 ·have c : ¬ (18 ≤ x.op ∧ x.op ≤ 24) := by simpa using c
  refine zSr<|zVzFF j2 Z jg Z Z<|zVzLi jl Z<|zVGveqlI Z Z<|zVzAb Z<|z6<|y9 Z (fun c17=>?_) (fun c17=>?_)
  ·have c17 : x.op = 17 := by simpa using c17
   obtain ⟨a, hla1⟩ : ∃ a, l = [a] := len1 (by rw [hll, c17]; rfl)
   subst hla1
   refine zSr<|zVzMp Z<|zVzMf Z<|z7 (zIM 0 j5 wy Z Z Z Z)<|zVzFF j8 Z jm Z Z<|zVzLi Z5 Z<|y7 Z (zr (.l (.l (.l (.l (.l (.l (.rest _)))))))) (swrite_spec f iw jv jh jo jt ids s a.int hp.lt) ?_
   rintro r29 O29 ⟨jt', rfl, rfl⟩
   refine z6<|ze<|yp ?_
   exact ⟨jo, jt', ids, by rw [wr_eq hx c17 hl]; unfold writeS; split <;> exact hids, rfl, by rw [wr_eq hx c17 hl]; exact List.append_nil _⟩
  ·have n17 : x.op ≠ 17 := fun e => c17 (by simpa using e)
   have hI := inst_mk hx he c n17 hl
   have hmk := smake_spec (E := E) f iw jv jh jo jt ids s x.op x.dst x.num x.args l hop c n17 hll hids
   have hmv := mkS_v s x.op ((l[0]?).getD zA) ((l[1]?).getD zA) ((l[2]?).getD zA)
   have hmt := mkS_tr s x.op ((l[0]?).getD zA) ((l[1]?).getD zA) ((l[2]?).getD zA)
   obtain ⟨S, hS⟩ : ∃ S, mkS s x.op ((l[0]?).getD zA) ((l[1]?).getD zA) ((l[2]?).getD zA) = S := ⟨_, rfl⟩
   obtain ⟨V, hV⟩ : ∃ V, mkV s.rows x.op x.num ((l[0]?).getD zA) ((l[1]?).getD zA) = V := ⟨_, rfl⟩
   obtain ⟨B, hB⟩ : ∃ B, mkOk s.rows x.op ((l[0]?).getD zA) ((l[1]?).getD zA) = B := ⟨_, rfl⟩
   rw [hS, hV, hB] at hI hmk
   rw [hS] at hmv hmt
   refine zj<|zSr<|zVzMp Z<|zVGvloadWF isAgg67 Z9 Z Z<|zVzMf Z<|y7 Z (zr (.l (.l (.l (.l (.l (.l (.rest _)))))))) (hmk) ?_
   rintro r34 O34 ⟨jo', ids', hids', rfl, rfl⟩
   refine z7 (zMu Z)<|z7 (yt (v := .agg _) Z Z)<|z7 (zXb Z Z)<|zo (cs := [.int .i64 0, .bool false, .int .i64 0]) jc Z Z<|fun i5 => zg wy Z Z Z Z Z Z .head Z<|ye (yu (t := 5) Z .head)<|zVzAb Z<|z6<|zc<|zSr<|zVzMb Z<|zVGvnot Z<|z6<|yb Z (fun cb=>?_) (fun cb=>?_)
   ·have cb : B = false := by simpa using cb
    refine zSr<|zVzMp Z<|y7 Z (zr (.l (.l (.l (.l (.l (.l (.rest _)))))))) (send_spec f iw jv jh jo' jt ids' S 2) ?_
    rintro r40 O40 ⟨rfl, rfl⟩
    refine z6<|ze<|yp ?_
    exact ⟨jo', jt, ids', by rw [hI, cb]; exact hids', rfl, by rw [hI, cb]; rfl⟩
   ·have cb : B = true := by simpa using cb
    rw [if_pos cb] at hI
    refine zj<|zSr<|zVzFF j2 Z j6 Z Z<|zVzLi je Z<|z7 (Gv.geq Z Z)<|zVzMb Z<|zx (s := 44) Z (fun cd=>?_) (fun cd=>?_)
    ·have cda : 0 ≤ x.dst := by simpa using cd
     refine za Z Z cd<|zVzMp Z<|za Z Z cd<|z7 (zq Z)<|za Z Z cd<|z7 (zf wz Z Zj (by decide) Z Z)<|za Z Z cd<|z7 (zt (c := .bool _) Y3 Z ⟨_, .head⟩ Z)<|za Z Z cd<|zVGvnot Z<|zVzPt Z cd Z<|z6<|yb Z (fun ce=>?_) (fun ce=>?_)
     ·have ce : S.ended = false := by simpa using ce
      rw [if_pos ⟨cda, ce⟩] at hI
      have hdl : x.dst < s.v.length := by rw [hp.lv]; exact dst_lt2 hx cda
      have hdl2 : x.dst.toNat < S.v.length := by rw [hmv]; omega
      refine zw (fun j => Nat.beq j 8) (by kernel_rfl) Z (zr (.r (.rest _)))<|zTk 0 Z (zMp Z)<|zTk 1 Z (zq Z)<|zTk 2 Z (zf wz Z Ze (by decide) Z Z)<|zTk 3 Z (zt (c := .own _ _) Zv Z ⟨_, .head⟩ Z)<|zTk 4 Z (zFF j2 Z j6 Z Z)<|zTk 5 Z (zLi je Z)<|zTk 6 Z (yk jj wy Z Z)<|zOn 7 Z<|z7 (Gv.idxA3 (j := x.dst.toNat) j5 wy Z Z (Int.toNat_of_nonneg cda).symm ⟨_, .head⟩ Z (by rw [hmv]; omega))<|z6<|y8<|zu (i := 8) Z (by kernel_rfl) (by kernel_rfl)<|AOps.storeA3 (j := x.dst.toNat) wy Z Z .t1 (by first | omega | (simp; omega))<|z6<|ya (by kernel_rfl)<|yp ?_
      exact ⟨jo', jt, ids', by rw [hI]; exact hids', rfl, by rw [hI]; unfold sO; rw [hmv]; simp [hmv]⟩
     ·have ce : ¬ S.ended = false := by simpa using ce
      rw [if_neg (fun h => ce h.2)] at hI
      refine zj<|yp ?_
      exact ⟨jo', jt, ids', by rw [hI]; exact hids', rfl, by rw [hI]; exact List.append_nil _⟩
    ·have cda : ¬ 0 ≤ x.dst := by simpa using cd
     rw [if_neg (fun h => cda h.1)] at hI
     refine z8 Z Z cd<|z8 Z Z cd<|z8 Z Z cd<|z8 Z Z cd<|z8 Z Z cd<|zVzPf Z cd Z<|z6<|zb Z Z<|zj<|yp ?_
     exact ⟨jo', jt, ids', by rw [hI]; exact hids', rfl, by rw [hI]; exact List.append_nil _⟩
end Go.Proofs.YtoicilchhkndmaaGreatDoor
namespace Go.Proofs.YtoicilchhkndmaaGreatDoor
open Go.Proofs.Tryz
open Go.Proofs Go.Lib Go.Shelf Go.RowKit
variable {E : World}
set_option maxRecDepth 20000
theorem findA_first {b : Int} : ∀ (fr ar : List Int) (k : Nat), ar.length = fr.length →
  (((fr.zip ar).find? fun q => decide (q.1 = b)) = none ∧ firstI (fun x => decide (b = x)) fr k = -1) ∨ ∃ j y, ((fr.zip ar).find? fun q => decide (q.1 = b)) = some (b, y) ∧ firstI (fun x => decide (b = x)) fr k = ((k + j : Nat) : Int) ∧ j < fr.length ∧ ar[j]? = some y
 | [], _, _, _ => .inl ⟨rfl, rfl⟩
 | x :: fr, [], _, h => by simp at h
 | x :: fr, y :: ar, k, h => by
  rw [List.zip_cons_cons, List.find?_cons, firstI]
  by_cases e : x = b
  ·subst e
   exact .inr ⟨0, y, by simp, by simp, by simp, rfl⟩
  ·rw [if_neg (by simpa using fun h => e h.symm)]
   simp only [decide_eq_false e]
   rcases findA_first fr ar (k + 1) (by simpa using h) with ⟨h1, h2⟩ | ⟨j, z, h1, h2, h3, h4⟩
   ·exact .inl ⟨h1, h2⟩
   ·exact .inr ⟨j + 1, z, h1, by rw [h2]; congr 1; omega, by simpa using h3, by simpa using h4⟩
def fstP (p : PPhi) (b : Int) : Int := firstI (fun x => decide (b = x)) p.from_ 0
theorem fst_neg {p : PPhi} {b : Int} (hl : p.args.length = p.from_.length) (h : fstP p b < 0) : phiAt p b = -1 := by
 unfold fstP at h; unfold phiAt
 rcases findA_first p.from_ p.args 0 hl with ⟨h1, _⟩ | ⟨j, y, _, h2, _⟩
 ·rw [h1]; rfl
 ·rw [h2] at h; omega
theorem fst_pos {p : PPhi} {b : Int} (hl : p.args.length = p.from_.length) (h : ¬ fstP p b < 0) : 0 ≤ fstP p b ∧ fstP p b < p.args.length ∧ p.args[(fstP p b).toNat]? = some (phiAt p b) := by
 unfold fstP at *; unfold phiAt
 rcases findA_first p.from_ p.args 0 hl with ⟨_, h2⟩ | ⟨j, y, h1, h2, h3, h4⟩
 ·rw [h2] at h; exact absurd (by decide) h
 ·rw [h1, h2]
  refine ⟨by omega, by omega, ?_⟩
  rw [Int.toNat_natCast, Nat.zero_add, h4]; rfl
def gotP (l : List PPhi) (s : PS) (k : Nat) : List PArg := (l.take k).map fun p => argv s (phiAt p s.blk)
theorem gotP_push {l : List PPhi} {s : PS} {k : Nat} (h : k < l.length) : gotP l s k ++ [argv s (phiAt l[k] s.blk)] = gotP l s (k + 1) := by
 unfold gotP; rw [q4 h, List.map_append]; rfl
theorem gotP_len {l : List PPhi} {s : PS} {k : Nat} (h : k ≤ l.length) : (gotP l s k).length = k := by
 unfold gotP; rw [List.length_map, List.length_take]; omega
theorem gotP_get {l : List PPhi} {s : PS} {k : Nat} (h : k < l.length) : (gotP l s l.length)[k]? = some (argv s (phiAt l[k] s.blk)) := by
 unfold gotP; rw [q7, List.getElem?_map, q3 h]; rfl
def toP (l : List PPhi) (s : PS) (k : Nat) : List PArg := (l.take k).foldl (fun l p => l.set p.dst.toNat (argv s (phiAt p s.blk))) s.v
theorem toP_push {l : List PPhi} {s : PS} {k : Nat} (h : k < l.length) : toP l s (k + 1) = (toP l s k).set l[k].dst.toNat (argv s (phiAt l[k] s.blk)) := by
 unfold toP; rw [q4 h, List.foldl_append]; rfl
theorem toP_len (l : List PPhi) (s : PS) (k : Nat) : (toP l s k).length = s.v.length := by
 unfold toP; exact phis_len (fun p => argv s (phiAt p s.blk)) _ _
set_option maxHeartbeats 16000000 in
theorem senter_spec (f : PFunc) (iw jv jh jo jt : Nat) (ids : List Nat) (s : PS) (dst_ : Int) (n : Nat) (hids : ids.length = s.rows.length) (hp : PInv f n s) (hR : RunP f) (hv : f.vars.length ≤ 1000) (hs : small f) (h0 : 0 ≤ dst_) (h1 : dst_ < f.blocks.length) : ACall prog E 49 [.po iw 0, .int .i64 dst_] (sO f iw jv jh jo jt ids s) (fun y O => ids.length = (enterP f s dst_).rows.length ∧ y = .tup [] ∧ O = sO f iw jv jh jo jt ids (enterP f s dst_)) := by
 have hB := blk_get h0 h1
 have hBm := List.mem_of_getElem? hB
 have hph := hR.phis _ hBm
 have hsm := (hs.2.2.2.2 _ hBm).2.1
 have hsp := (hs.2.2.2.2 _ hBm).2.2.2.1
 obtain ⟨B, hBe⟩ : ∃ B, blkG f dst_ = B := ⟨_, rfl⟩
 have hgo : enterP f s dst_ = if B.phis.all (fun p => decide (0 ≤ phiAt p s.blk)) = true then { s with v := toP B.phis s B.phis.length, blk := dst_, pc := 0 } else endP { s with blk := dst_, pc := 0 } 2 := by unfold enterP toP phisP; rw [hBe, q7]
 rw [hBe] at hB hph hsm hsp
 have hlv := hp.lv
 refine zn func49 Z (by decide) Z<|zSr<|zVzMp Z<|z7 (zq Z)<|z7 (zf wz Z j6 (by decide) Z Z)<|z7 (zt (c := .int _ _) je Z ⟨_, .head⟩ Z)<|zVzAi Z<|z6<|zSr<|zVzMp Z<|zVzMp Z<|zVzMi Z<|z7 (zq Z)<|z7 (zf wz Z j6 (by decide) Z Z)<|yd (l := [_]) (new := [_, _, _, _, _, _, _, _, _, _, _, _, _, _, _, _, _, _, _, _, _]) j6 Z Z Z Z Z Z .head Z Z<|z7 (zq Z)<|z7 (zf wz Z j6 (by decide) Z Z)<|yd (l := [_]) (new := [_, _, _, _, _, _, _, _, _, _, _, _, _, _, _, _, _, _, _, _, _]) j6 Z Z Z Z Z Z .head Z Z<|z6<|zSr<|z7 (zAr Z)<|z6<|adopt_wp (t := 5) (k := 3) (T := 50) Z<|fun i5 => zp (zh (zm .t1))<|zc<|zSr<|zVzMp Z<|z7 (zq Z)<|z7 (zf wz Z jf (by decide) Z Z)<|z7 (zf jd Z Zm (by decide) Z Z)<|z7 (zt (c := .fro _ _) Y4 Z ⟨_, .head⟩ Z)<|zVzMi Z<|z7 (zIM dst_.toNat js Z3 Z Z (by omega) hB)<|zVzFF j9 Z Zq Z Z<|zVzLf isAgg55 Z<|zVGvlenM jw Z<|zVzMi Z<|z6<|zi<|yg (γ := Nat × Nat) [0, 1, 4, 30, 31] (fun g => [(32, .int .i64 g.1), (5, .own g.2 g.1)]) (fun g => (iw, .cells 84 (sCe f jv jh jt { s with blk := dst_, pc := 0 })) :: (g.2, .grow 3 50 (aC (gotP B.phis s g.1))) :: sR jv jh jo jt ids s) (fun g => g.1 ≤ B.phis.length ∧ ∀ q ∈ B.phis.take g.1, 0 ≤ phiAt q s.blk) (fun g => B.phis.length - g.1) (0, i5) zR2 zLe (⟨q5 _, fun q hq => by simp at hq⟩) ?_
 rintro ⟨k, i5⟩ ⟨hk, hok⟩
 try dsimp only at *
 refine zSr<|zVGvlss Z Z<|z6<|zc<|y9 Z (fun ck=>?_) (fun ck=>?_)
 ·have hk2 : k < B.phis.length := by simp at ck; omega
  obtain ⟨p, hpe⟩ : ∃ p, B.phis[k] = p := ⟨_, rfl⟩
  have hpg : B.phis[k]? = some p := by rw [q3 hk2, hpe]
  have hpm := List.mem_of_getElem? hpg
  obtain ⟨_, hal, _, hav, _⟩ := hph p hpm
  have hfl := (hsp p hpm).2
  refine zj<|zc<|zi<|zSr<|z7 (zIM k jw Z8 Z Z Z hpg)<|zVGvloadWF isAgg64 Z8 Z Z<|zo (cs := [.int .i64 0, .raw (.slice none 0 0), .raw (.slice none 0 0)]) Y1 Z Z<|fun i7 => zg Z8 Z Z Z Z Z Z .head Z<|ye (yu (t := 7) Z .head)<|z6<|zSr<|zVzFF jq Z ju Z Z<|zVzLf Z1 Z<|zVzMi Z<|zd (indexZ_spec p.from_ s.blk (by omega)) Z<|zVzAi Z<|z6<|zc<|zSr<|zVzMi Z<|zVGvlss Z Z<|z6<|y9 Z (fun cn=>?_) (fun cn=>?_)
  ·have cn : fstP p s.blk < 0 := by unfold fstP; simpa using cn
   have hE : enterP f s dst_ = endP { s with blk := dst_, pc := 0 } 2 := by
    rw [hgo, if_neg]
    intro h
    have := of_decide_eq_true (List.all_eq_true.1 h p hpm)
    rw [fst_neg hal cn] at this
    omega
   refine zp (GStep.drop .t1)<|zSr<|zVzMp Z<|y7 Z (zr (.l (.l (.l (.l (.l (.l (.rest _)))))))) (send_spec f iw jv jh jo jt ids { s with blk := dst_, pc := 0 } 2) ?_
   rintro r43 O43 ⟨rfl, rfl⟩
   refine z6<|ze<|yp ?_
   exact ⟨by rw [hE]; exact hids, rfl, by rw [hE]; rfl⟩
  ·have cn : ¬ fstP p s.blk < 0 := by unfold fstP; simpa using cn
   obtain ⟨g0, g1, g2⟩ := fst_pos hal cn
   have hmem := List.mem_of_getElem? g2
   have hvi := has_lt (List.all_eq_true.1 hav _ hmem)
   have hvl : (phiAt p s.blk).toNat < s.v.length := by rw [hlv]; omega
   have hvl2 : phiAt p s.blk < s.v.length := by rw [hlv]; omega
   refine zj<|zw (fun j => false) (by kernel_rfl) Z (zr (.r (.l (.r (.rest _)))))<|zTk 0 Z (zMo Z)<|zTk 1 Z (zMp Z)<|zTk 2 Z (zq Z)<|zTk 3 Z (zf wz Z Ze (by decide) Z Z)<|zTk 4 Z (zt (c := .own _ _) Zv Z ⟨_, .head⟩ Z)<|zTk 5 Z (zFF jq Z ju Z Z)<|zTk 6 Z (zLf Z1 Z)<|zTk 7 Z (zMi Z)<|zTk 8 Z (Gv.idxM (j := (fstP p s.blk).toNat) ja j6 Z Z (Int.toNat_of_nonneg g0).symm g2)<|zTk 9 Z (zLi je Z)<|zTk 10 Z (Gv.idxA3 (j := (phiAt p s.blk).toNat) j5 wy Z Z (Int.toNat_of_nonneg hvi.2).symm ⟨_, .t1⟩ Z hvl)<|zTk 11 Z (Gv.loadA3 (j := (phiAt p s.blk).toNat) jj wy Z ⟨_, .t1⟩ (argv_get hvl2 hvi.2))<|zOn 12 Z<|yi (rows := [[_, _, _]]) ps27_1 Z Z Z Z Z<|z6<|zOn 13 Z<|yo (k := 3) j5 type50 Z Z Z Z Z (fun _ => .head) (by rw [aC_len, gotP_len hk]) (by decide) Z (by show (_ + 1) * 24 ≤ _; omega) (by show _ + 1 ≤ _; omega)<|fun i57 => z6<|zTk 14 Z (zAo Z)<|zDn<|zp (zh (zm .t2))<|zp (zh (zm .t1))<|zRg<|zVzAd Z Z<|zVzMi Z<|z6 ?_
   exact ⟨(k + 1, i57), ⟨rfl, rfl, rfl, rfl, rfl, trivial⟩, zR2, ⟨_, (.refl _), by rw [← gotP_push hk2, hpe, ← aC_push]; rfl⟩, ⟨hk2, fun q hq => by rw [q4 hk2] at hq; rcases List.mem_append.1 hq with hq | hq; exact hok q hq; rw [List.mem_singleton.1 hq, hpe]; exact hvi.2⟩, by dsimp only; omega⟩
 ·obtain rfl : k = B.phis.length := by simp at ck; omega
  rw [q7] at hok
  rw [if_pos (List.all_eq_true.2 fun q hq => decide_eq_true (hok q hq))] at hgo
  rw [hgo]
  refine yf<|zSr<|zVzMp Z<|z7 (zq Z)<|z7 (zf wz Z jf (by decide) Z Z)<|z7 (zf jd Z Zm (by decide) Z Z)<|z7 (zt (c := .fro _ _) Y4 Z ⟨_, .head⟩ Z)<|zVzMi Z<|z7 (zIM dst_.toNat js Z3 Z Z (by omega) hB)<|zVzFF j9 Z Zq Z Z<|zVzLf isAgg55 Z<|zVGvlenM jw Z<|zVzMi Z<|z6<|zi<|yg (γ := Nat) [0, 5, 67, 68] (fun k => [(69, .int .i64 k)]) (fun k => (iw, .cells 84 (sCe f jv jh jt { s with blk := dst_, pc := 0, v := toP B.phis s k })) :: (i5, .grow 3 50 (aC (gotP B.phis s B.phis.length))) :: sR jv jh jo jt ids { s with v := toP B.phis s k }) (fun k => k ≤ B.phis.length) (fun k => B.phis.length - k) 0 zR1 zLe (q5 _) ?_
  rintro k hk
  refine zSr<|zVGvlss Z Z<|z6<|zc<|y9 Z (fun ck=>?_) (fun ck=>?_)
  ·have hk2 : k < B.phis.length := by simp at ck; omega
   obtain ⟨p, hpe⟩ : ∃ p, B.phis[k] = p := ⟨_, rfl⟩
   have hpg : B.phis[k]? = some p := by rw [q3 hk2, hpe]
   obtain ⟨hdv, _⟩ := hph p (List.mem_of_getElem? hpg)
   have hd := has_lt hdv
   have htl := toP_len B.phis s k
   have hgl := gotP_len (l := B.phis) (s := s) (Nat.le_refl _)
   have hgg := gotP_get (s := s) hk2
   have htp := toP_push (s := s) hk2
   rw [hpe] at hgg htp
   refine zj<|zc<|zi<|zSr<|zVzMi Z<|z7 (zIM k jw Z8 Z Z Z hpg)<|zVGvloadWF isAgg64 Z8 Z Z<|zo (cs := [.int .i64 0, .raw (.slice none 0 0), .raw (.slice none 0 0)]) Y1 Z Z<|fun i10 => zVzAi Z<|zg Z8 Z Z Z Z Z Z .head Z<|ye (yu (t := 10) Z .head)<|z6<|zw (fun j => Nat.beq j 11) (by kernel_rfl) Z (zr (.r (.r (.rest _))))<|zTk 0 Z (zMp Z)<|zTk 1 Z (zq Z)<|zTk 2 Z (zf wz Z Ze (by decide) Z Z)<|zTk 3 Z (zt (c := .own _ _) Zv Z ⟨_, .head⟩ Z)<|zTk 4 Z (zFF jq Z j6 Z Z)<|zTk 5 Z (zLi je Z)<|zTk 6 Z (zMo Z)<|zTk 7 Z (zMi Z)<|zTk 8 Z (Gv.idxA3 (j := k) j5 wy Z Z Z ⟨_, .t1⟩ hgl hk2)<|zTk 9 Z (Gv.loadA3 (j := k) jj wy Z ⟨_, .t1⟩ hgg)<|zOn 10 Z<|z7 (Gv.idxA3 (j := p.dst.toNat) j5 wy Z Z (Int.toNat_of_nonneg hd.2).symm ⟨_, .head⟩ Z (by rw [htl]; omega))<|z6<|y8<|zu (i := 11) Z (by kernel_rfl) (by kernel_rfl)<|AOps.storeA3 (j := p.dst.toNat) wy Z Z .t2 (by first | omega | (simp; omega))<|z6<|ya (by kernel_rfl)<|zRg<|zVzAd Z Z<|zVzMi Z<|z6 ?_
   exact ⟨k + 1, zR4, zR1, ⟨_, (.refl _), by rw [htp]; simp⟩, hk2, by omega⟩
  ·obtain rfl : k = B.phis.length := by simp at ck; omega
   refine zp (GStep.drop .t1)<|yf<|yp ?_
   exact ⟨hids, rfl, rfl⟩
set_option maxHeartbeats 8000000 in
theorem sterm_spec (f : PFunc) (iw jv jh jo jt : Nat) (ids : List Nat) (s : PS) (n : Nat) (t : PTerm) (hids : ids.length = s.rows.length) (hp : PInv f n s) (hR : RunP f) (hv : f.vars.length ≤ 1000) (hs : small f) (ht : t = (blkG f s.blk).term) : ACall prog E 26 [.po iw 0, .agg (encTerm t)] (sO f iw jv jh jo jt ids s) (fun y O => ids.length = (termP f s).rows.length ∧ y = .tup [] ∧ O = sO f iw jv jh jo jt ids (termP f s)) := by
 have htm := hR.term _ (blk_mem hp.b0 hp.b1)
 have hT : termP f s = if t.kind = 0 then enterP f s t.to0 else if t.kind = 1 then (if (argv s t.var).b = true then enterP f s t.to0 else enterP f s t.to1) else endP { s with val := (argv s t.var).int } 0 := by rw [ht]; rfl
 rw [← ht] at htm
 have hlv := hp.lv
 refine zn func26 Z (by decide) Z<|zSr<|zz (cs := _) Z Z Z<|z6<|zSr<|zVzFF jk Z sizeOf57 Z Z<|zVzLi isAgg57 Z<|z6<|zi<|zSr<|zVGveqlI Z Z<|zVzAb Z<|z6<|y9 Z (fun c0=>?_) (fun c0=>?_)
 ·have c0 : t.kind = 0 := by simpa using c0
  rw [if_pos c0] at hT
  have hto := (term_to htm (by omega)).1
  refine zRg<|zVzMp Z<|zVzFF jk Z Zp Z Z<|z7 (Gv.idxAF (j := 0) Z6 j6 Z Z Z (by decide) Z)<|zVzLi je Z<|y7 Z (zr (.l (.l (.l (.l (.l (.l (.rest _)))))))) (senter_spec f iw jv jh jo jt ids s t.to0 n hids hp hR hv hs hto.1 hto.2) ?_
  rintro r12 O12 ⟨hl', rfl, rfl⟩
  refine z6<|yp ?_
  exact ⟨by rw [hT]; exact hl', rfl, by rw [hT]; exact List.append_nil _⟩
 ·have c0 : ¬ t.kind = 0 := by simpa using c0
  rw [if_neg c0] at hT
  have hvi := term_v htm c0
  refine zSr<|zVGveqlI Z Z<|zVzAb Z<|z6<|y9 Z (fun c1=>?_) (fun c1=>?_)
  ·have c1 : t.kind = 1 := by simpa using c1
   rw [if_pos c1] at hT
   have hto := term_to htm (by omega)
   have hto1 := (hto.2 c0).2
   refine zc<|zw (fun j => false) (by kernel_rfl) Z (zr (.r (.r (.rest _))))<|zTk 0 Z (zMp Z)<|zTk 1 Z (zq Z)<|zTk 2 Z (zf wz Z Ze (by decide) Z Z)<|zTk 3 Z (zt (c := .own _ _) Zv Z ⟨_, .head⟩ Z)<|zTk 4 Z (zFF jk Z j6 Z Z)<|zTk 5 Z (zLi je Z)<|zTk 6 Z (Gv.idxA3 (j := t.var.toNat) j5 wy Z Z (Int.toNat_of_nonneg hvi.2).symm ⟨_, .t1⟩ Z (by omega))<|zTk 7 Z (zf j8 Z Zj (by decide) Z Z)<|zTk 8 Z (Gv.loadA31 (j := t.var.toNat) Y3 Z ⟨_, .t1⟩ (argv_get (by omega) hvi.2))<|zDn<|yb Z (fun cb=>?_) (fun cb=>?_)
   ·have cb : (argv s t.var).b = true := cb
    rw [if_pos cb] at hT
    refine zRg<|zVzMp Z<|zVzFF jk Z Zp Z Z<|z7 (Gv.idxAF (j := 0) Z6 j6 Z Z Z (by decide) Z)<|zVzLi je Z<|y7 Z (zr (.l (.l (.l (.l (.l (.l (.rest _)))))))) (senter_spec f iw jv jh jo jt ids s t.to0 n hids hp hR hv hs hto.1.1 hto.1.2) ?_
    rintro r28 O28 ⟨hl', rfl, rfl⟩
    refine z6<|yp ?_
    exact ⟨by rw [hT]; exact hl', rfl, by rw [hT]; exact List.append_nil _⟩
   ·have cb : (argv s t.var).b = false := cb
    rw [if_neg (by rw [cb]; decide)] at hT
    refine zRg<|zVzMp Z<|zVzFF jk Z Zp Z Z<|z7 (Gv.idxAF (j := 1) Z6 j6 Z Z Z (by decide) Z)<|zVzLi je Z<|y7 Z (zr (.l (.l (.l (.l (.l (.l (.rest _)))))))) (senter_spec f iw jv jh jo jt ids s t.to1 n hids hp hR hv hs hto1.1 hto1.2) ?_
    rintro r33 O33 ⟨hl', rfl, rfl⟩
    refine z6<|yp ?_
    exact ⟨by rw [hT]; exact hl', rfl, by rw [hT]; exact List.append_nil _⟩
  ·have c1 : ¬ t.kind = 1 := by simpa using c1
   rw [if_neg c1] at hT
   have c2 : t.kind = 2 := Classical.byContradiction fun h => by
    have := (term_to htm h).2 c0
    exact c1 this.1
   refine zSr<|zVGveqlI Z Z<|zVzAb Z<|z6<|zy Z (by simpa using c2)<|zc<|zw (fun j => Nat.beq j 13) (by kernel_rfl) Z (zr (.r (.r (.rest _))))<|zTk 0 Z (zMp Z)<|zTk 1 Z (zMp Z)<|zTk 2 Z (zq Z)<|zTk 3 Z (zf wz Z Ze (by decide) Z Z)<|zTk 4 Z (zt (c := .own _ _) Zv Z ⟨_, .head⟩ Z)<|zTk 5 Z (zFF jk Z j6 Z Z)<|zTk 6 Z (zLi je Z)<|zTk 7 Z (Gv.idxA3 (j := t.var.toNat) j5 wy Z Z (Int.toNat_of_nonneg hvi.2).symm ⟨_, .t1⟩ Z (by omega))<|zTk 8 Z (zf j8 Z jm (by decide) Z Z)<|zTk 9 Z (Gv.loadA30 (j := t.var.toNat) Z5 Z ⟨_, .t1⟩ (argv_get (by omega) hvi.2))<|yc (i := 10) Z (by kernel_rfl) (by kernel_rfl) (by kernel_rfl) (by kernel_rfl) (zq Z)<|yc (i := 11) Z (by kernel_rfl) (by kernel_rfl) (by kernel_rfl) (by kernel_rfl) (zf wz Z j3 (by decide) Z Z)<|zTk 12 Z (zf j4 Z jm (by decide) Z Z)<|y8<|zu (i := 13) Z (by kernel_rfl) (by kernel_rfl)<|yd (l := [_]) (new := [_, _, _, _, _, _, _, _, _, _, _, _, _, _, _, _, _, _, _, _, _]) jm Z Z Z Z Z Z .head Z Z<|z6<|ya (by kernel_rfl)<|zRg<|zVzMp Z<|y7 Z (zr (.l (.l (.l (.l (.l (.l (.rest _)))))))) (send_spec f iw jv jh jo jt ids { s with val := (argv s t.var).int } 0) ?_
   rintro r50 O50 ⟨rfl, rfl⟩
   refine z6<|yp ?_
   exact ⟨by rw [hT]; exact hids, rfl, by rw [hT]; rfl⟩
theorem stepP_inst {f : PFunc} {s : PS} {x : PInst} (h : (blkG f s.blk).insts[s.pc]? = some x) : stepP f s = instP' { s with st := s.st + 1, pc := s.pc + 1 } x := by unfold stepP; rw [h]
theorem stepP_term {f : PFunc} {s : PS} (h : (blkG f s.blk).insts[s.pc]? = none) : stepP f s = termP f { s with st := s.st + 1 } := by unfold stepP; rw [h]
set_option maxHeartbeats 8000000 in
theorem sStep_end (f : PFunc) (iw jv jh jo jt : Nat) (ids : List Nat) (s : PS) (he : s.ended = true) : ACall prog E 14 [.po iw 0] (sO f iw jv jh jo jt ids s) (fun y O => y = .bool false ∧ O = sO f iw jv jh jo jt ids s) := by
 refine zn func14 Z (by decide) Z<|zSr<|zVzAb Z<|z6<|zc<|zSr<|zVzMp Z<|z7 (Gv.eqlPo underlying68 type84 Z)<|zVzMb Z<|za Z Z Z<|zVzMp Z<|za Z Z Z<|z7 (zq Z)<|za Z Z Z<|z7 (zf wz Z Zj (by decide) Z Z)<|za Z Z Z<|z7 (zt (c := .bool _) Y3 Z ⟨_, .head⟩ Z)<|zVzPf Z Z Z<|z6<|zy Z (by simpa using he)<|zSr<|zVzAb Z<|z6<|ze<|zk (x := .bool _) Z ?_
 exact ⟨rfl, rfl⟩
set_option maxHeartbeats 8000000 in
theorem sStep_aux (f : PFunc) (iw jv jh jo jt : Nat) (ids : List Nat) (s : PS) (n : Nat) (hn : n ≤ 1000000) (hst : s.st ≤ 1000000) (hids : ids.length = s.rows.length) (hp : PInv f n s) (hR : RunP f) (hv : f.vars.length ≤ 1000) (hs : small f) (he : s.ended = false) : ACall prog E 14 [.po iw 0] (sO f iw jv jh jo jt ids s) (fun y O1 => ∃ O, (∃ jo' jt' ids', ids'.length = (stepP f s).rows.length ∧ y = .bool true ∧ O = sO f iw jv jh jo' jt' ids' (stepP f s)) ∧ Left O1 O) := by
 have hB := blk_get hp.b0 hp.b1
 have hBm := List.mem_of_getElem? hB
 have hsm := (hs.2.2.2.2 _ hBm).2.2.1
 have hpc := hp.pc
 have hin := hR.insts _ hBm
 have hi := @stepP_inst f s
 have hte := @stepP_term f s
 obtain ⟨B, hBe⟩ : ∃ B, blkG f s.blk = B := ⟨_, rfl⟩
 have hptm : B.term = (blkG f s.blk).term := by rw [hBe]
 rw [hBe] at hB hsm hpc hin hi hte
 refine zn func14 Z (by decide) Z<|zSr<|zVzAb Z<|z6<|zc<|zSr<|zVzMp Z<|z7 (Gv.eqlPo underlying68 type84 Z)<|zVzMb Z<|za Z Z Z<|zVzMp Z<|za Z Z Z<|z7 (zq Z)<|za Z Z Z<|z7 (zf wz Z Zj (by decide) Z Z)<|za Z Z Z<|z7 (zt (c := .bool _) Y3 Z ⟨_, .head⟩ Z)<|zVzPf Z Z Z<|z6<|zb Z (by simpa using he)<|zj<|zSr<|zVzMp Z<|z7 (zq Z)<|z7 (zf wz Z j3 (by decide) Z Z)<|z7 (zf j4 Z j6 (by decide) Z Z)<|z7 (zt (c := .int _ _) je Z ⟨_, .head⟩ Z)<|zVzAd Z Z<|z7 (zq Z)<|z7 (zf wz Z j3 (by decide) Z Z)<|z7 (zf j4 Z j6 (by decide) Z Z)<|yd (l := [_]) (new := [_, _, _, _, _, _, _, _, _, _, _, _, _, _, _, _, _, _, _, _, _]) j6 Z Z Z Z Z Z .head Z Z<|z6<|zc<|zw (fun j => Nat.beq j 12) (by kernel_rfl) Z (zr (.r (.rest _)))<|zTk 0 Z (zMp Z)<|zTk 1 Z (zq Z)<|zTk 2 Z (zf wz Z jf (by decide) Z Z)<|zTk 3 Z (zf jd Z Zm (by decide) Z Z)<|zTk 4 Z (zt (c := .fro _ _) Y4 Z ⟨_, .head⟩ Z)<|zTk 5 Z (zMp Z) ?_
 refine zTk 6 Z (zq Z)<|zTk 7 Z (zf wz Z j6 (by decide) Z Z)<|zTk 8 Z (zt (c := .int _ _) je Z ⟨_, .head⟩ Z)<|zTk 9 Z (zIM s.blk.toNat js Z3 Z Z (Int.toNat_of_nonneg hp.b0).symm hB)<|zTk 10 Z (yk isAgg62 Z3 Z Z)<|zOn 11 Z<|zo (cs := [.str ⟨#[]⟩, .raw (.slice none 0 0), .raw (.slice none 0 0), .int .i64 0, .int .i64 0, .int .i64 0, .int .i64 0]) Zl Z Z<|fun i3 => z6<|y8<|zu (i := 12) Z (by kernel_rfl) (by kernel_rfl)<|zg Z3 Z Z Z Z Z Z .t1 Z<|z6<|ya (by kernel_rfl)<|zc<|zc<|zw (fun j => false) (by kernel_rfl) Z (zr (.r (.r (.rest _))))<|zTk 0 Z (zMp Z)<|zTk 1 Z (zq Z)<|zTk 2 Z (zf wz Z j6 (by decide) Z Z)<|zTk 3 Z (zt (c := .int _ _) je Z ⟨_, .head⟩ Z)<|zTk 4 Z (zf j9 Z Zr (by decide) Z Z)<|zTk 5 Z (zt (c := .fro _ _) isAgg56 Z ⟨_, .t1⟩ Z)<|zTk 6 Z (Gv.lenM jx Z)<|zTk 7 Z (Gv.lss Z Z)<|zDn<|y9 Z (fun cp=>?_) (fun cp=>?_)
 ·have hpl : s.pc < B.insts.length := by simp at cp; omega
  obtain ⟨x, hx⟩ : ∃ x, B.insts[s.pc] = x := ⟨_, rfl⟩
  have hxg : B.insts[s.pc]? = some x := by rw [q3 hpl, hx]
  obtain ⟨hix, h64⟩ := hin x (List.mem_of_getElem? hxg)
  have hS := hi hxg
  have hp2 : PInv f n { s with st := s.st + 1, pc := s.pc + 1 } := ⟨hp.lv, hp.i64, hp.r64, hp.lr, hp.ck, hp.c0, hp.lt, hp.b0, hp.b1, by show s.pc + 1 ≤ (blkG f s.blk).insts.length; rw [hBe]; exact hpl⟩
  refine zc<|zw (fun j => Nat.beq j 9) (by kernel_rfl) Z (zr (.r (.r (.rest _))))<|zTk 0 Z (zf j9 Z Zr (by decide) Z Z)<|zTk 1 Z (zt (c := .fro _ _) isAgg56 Z ⟨_, .t1⟩ Z)<|zTk 2 Z (zMp Z)<|zTk 3 Z (zq Z)<|zTk 4 Z (zf wz Z j6 (by decide) Z Z)<|zTk 5 Z (zt (c := .int _ _) je Z ⟨_, .head⟩ Z)<|zTk 6 Z (zIM s.pc jx Z9 Z Z (by omega) hxg)<|zTk 7 Z (yk isAgg67 Z9 Z Z)<|zOn 8 Z<|zo (cs := [.int .i64 0, .int .i64 0, .raw (.slice none 0 0), .int .i64 0]) zeroValue67 Z Z<|fun i4 => z6<|y8<|zu (i := 9) Z (by kernel_rfl) (by kernel_rfl)<|zg Z9 Z Z Z Z Z Z .t2 Z<|z6<|ya (by kernel_rfl)<|zSr<|zVzMp Z<|z7 (zq Z)<|z7 (zf wz Z j6 (by decide) Z Z)<|z7 (zt (c := .int _ _) je Z ⟨_, .head⟩ Z)<|zVzAd Z Z<|z7 (zq Z)<|z7 (zf wz Z j6 (by decide) Z Z)<|yd (l := [_]) (new := [_, _, _, _, _, _, _, _, _, _, _, _, _, _, _, _, _, _, _, _, _]) j6 Z Z Z Z Z Z .head Z Z<|z6<|zRg<|zVzMp Z<|z7 (Gv.loadWC isAgg67 Z9 Z ⟨_, .t2⟩ Z)<|y7 Z (zr (.l (.r (.r (.l (.l (.l (.l (.l (.rest _)))))))))) (sinst_spec f iw jv jh jo jt ids { s with st := s.st + 1, pc := s.pc + 1 } x n hn hids hp2 hix he) ?_
  rintro r58 O58 ⟨jo', jt', ids', hl', rfl, rfl⟩
  refine z6<|zSr<|zVzAb Z<|z6<|ze<|zk (x := .bool _) Z ?_
  exact ⟨sO f iw jv jh jo' jt' ids' (instP' { s with st := s.st + 1, pc := s.pc + 1 } x), ⟨jo', jt', ids', by rw [hS]; exact hl', rfl, by rw [hS]⟩, left7⟩
 ·have hpl : B.insts[s.pc]? = none := by rw [List.getElem?_eq_none]; simp at cp; omega
  have hS := hte hpl
  have hp2 : PInv f n { s with st := s.st + 1 } := ⟨hp.lv, hp.i64, hp.r64, hp.lr, hp.ck, hp.c0, hp.lt, hp.b0, hp.b1, hp.pc⟩
  refine zRg<|zVzMp Z<|z7 (zf j9 Z sizeOf60 (by decide) Z Z)<|z7 (Gv.loadAC (l := [_, _, _, _]) isAgg60 sizeOf60 Z ⟨_, .t1⟩ Z Z)<|y7 Z (zr (.l (.r (.l (.l (.l (.l (.l (.rest _))))))))) (sterm_spec f iw jv jh jo jt ids { s with st := s.st + 1 } n B.term hids hp2 hR hv hs hptm) ?_
  rintro r62 O62 ⟨hl', rfl, rfl⟩
  refine z6<|zSr<|zVzAb Z<|z6<|ze<|zk (x := .bool _) Z ?_
  exact ⟨sO f iw jv jh jo jt ids (termP f { s with st := s.st + 1 }), ⟨jo, jt, ids, by rw [hS]; exact hl', rfl, by rw [hS]⟩, left7⟩
set_option maxHeartbeats 16000000 in
theorem sStep_spec (f : PFunc) (iw jv jh jo jt : Nat) (ids : List Nat) (s : PS) (n : Nat) (hn : n ≤ 1000000) (hst : s.st ≤ 1000000) (hids : ids.length = s.rows.length) (hp : PInv f n s) (hR : RunP f) (hv : f.vars.length ≤ 1000) (hs : small f) (he : s.ended = false) : ACall prog E 14 [.po iw 0] (sO f iw jv jh jo jt ids s) (fun y O => ∃ jo' jt' ids', ids'.length = (stepP f s).rows.length ∧ y = .bool true ∧ O = sO f iw jv jh jo' jt' ids' (stepP f s)) := (sStep_aux f iw jv jh jo jt ids s n hn hst hids hp hR hv hs he).sub
end Go.Proofs.YtoicilchhkndmaaGreatDoor
namespace Go.Proofs.YtoicilchhkndmaaGreatDoor
open Go.Proofs.Tryz
open Go.Proofs Go.Lib Go.Shelf Go.RowKit
theorem pl107 : Places prog 107 #[(0, 1)] [.raw (.slice none 0 0)] := ⟨_, _, Zd, zeroValue107, fun w => by kernel_rfl, rfl⟩
variable {E : World}
set_option maxRecDepth 20000
theorem cloneL_own (xs : List Int) (hl : xs.length ≤ 100000) : ACall prog E 27 [.fro 1 (xs.map encI)] [] (fun x O' => ∃ i : Nat, x = .own i xs.length ∧ Left O' [(i, .grow 1 2 (xs.map encI).flatten)] ∧ True) := by
 refine zn func27 Z (by decide) Z<|zSr<|z7 (zAr Z)<|z6<|zc<|zSr<|zVzMf Z<|AOps.isNil ji Z Z (fun hnil=>?_) ?_
 ·have hx : xs = [] := by simpa using hnil
  subst hx
  refine z6<|zy Z Z<|zSr<|z7 (zAr Z)<|z6<|ze ?_
  repeat (first | refine aseqQ_ret ?_ | refine ablockQ_ret ?_)
  refine adopt_fin (s := 2) (k := 1) (T := 2) Z (fun i=>?_)
  refine zk (x := .own _ _) Z ?_
  exact ⟨i, rfl, .refl _, trivial⟩
 ·refine z6<|zb Z Z<|zj<|zSr<|AOps.buildSlice0 (k := 1) ji type2<|fun i5 => zVzMf Z<|yo (k := 1) ji type2 Z Z Z Z Z (fun _ => .head) (by simp) (by decide) (all_cell (fun _ => Z) xs) (by show (_ + _) * 8 ≤ _; simp <;> omega) (by simp <;> omega)<|fun i7 => z7 (zAo Z)<|z6<|ze<|zk (x := .own _ _) Z ?_
  exact ⟨i7, (by simp), ⟨_, .refl _, rfl⟩, trivial⟩
theorem cloneL_spec (xs : List Int) (hl : xs.length ≤ 100000) : AFun prog E 27 [.fro 1 (xs.map encI)] (.fro 1 (xs.map encI)) := (cloneL_own xs hl).frozen (by simp [encI]) (by decide) (by simp)
theorem indexFuncL_spec {p : List Int → Bool} {fn : FuncId} {c : List AV} (xs : List (List Int)) (hl : xs.length ≤ 281474976710656) (hp : ∀ x ∈ xs, AFun prog E fn ([.fro 1 (x.map encI)] ++ c) (.bool (p x))) :
  AFun prog E 76 [.fro 1 (xs.map encArr), .fn fn [] c] (.int .i64 (firstI p xs 0)) := by
 refine zn func76 Z (by decide) Z<|zSr<|zVzAi Z<|z6<|zc<|zSr<|zVzMf Z<|zVGvlenM jn Z<|zVzMi Z<|z6<|zi<|yg (γ := Nat) [0, 1, 7] (fun k => [(8, .int .i64 k)]) (fun k => []) (fun k => k ≤ xs.length ∧ (xs.take k).all (fun x => !p x)) (fun k => xs.length - k) 0 zR1 zLe (⟨q5 _, Z⟩) ?_
 rintro k ⟨hk, hall⟩
 refine zSr<|zVGvlss Z Z<|z6<|zc<|y9 Z (fun ck=>?_) (fun ck=>?_)
 ·have hk2 : k < xs.length := by simp at ck; omega
  refine zj<|zc<|zi<|zSr<|zVzMi Z<|zVzAi Z<|z6<|zSr<|z7 (yy (v := .fn _ _ _) Z)<|zVzMf Z<|zVzMi Z<|z7 (zIM k jn Z0 Z Z Z (q3 hk2))<|zVzLf Zg Z<|AOps.callVP Z (hp _ (q6 hk2)) Z<|z6<|yb Z (fun cp=>?_) (fun cp=>?_)
  ·refine zSr<|zVzMi Z<|zVzAi Z<|z6<|ze<|zk (x := .int _ _) Z ?_
   rw [firstI_drop p xs k hk hall, List.drop_eq_getElem_cons hk2, firstI, if_pos cp]
  ·refine zj<|zRg<|zVzAd Z Z<|zVzMi Z<|z6 ?_
   exact ⟨k + 1, zR3, zR1, zLe, ⟨hk2, by rw [q4 hk2, List.all_append, hall]; simp [cp]⟩, by omega⟩
 ·have hkn : k = xs.length := by simp at ck; omega
  refine yf<|zSr<|zVzAi Z<|z6<|ze<|zk (x := .int _ _) Z ?_
  rw [firstI_drop p xs k hk hall, hkn, List.drop_length, firstI]
theorem containsFuncL_spec {p : List Int → Bool} {fn : FuncId} {c : List AV} (xs : List (List Int)) (hl : xs.length ≤ 281474976710656) (hp : ∀ x ∈ xs, AFun prog E fn ([.fro 1 (x.map encI)] ++ c) (.bool (p x))) :
  AFun prog E 38 [.fro 1 (xs.map encArr), .fn fn [] c] (.bool (xs.any p)) := by
 refine zn func38 Z (by decide) Z<|zSr<|zVzAb Z<|z6<|zSr<|zVzMf Z<|z7 (yy (v := .fn _ _ _) Z)<|zd (indexFuncL_spec xs hl hp) Z<|z7 (Gv.geq Z Z)<|zVzAb Z<|z6<|ze<|zk (x := .bool _) Z ?_
 rw [firstI_ge]
theorem hnew1_spec (x : List Int) : AFun prog E 39 ([.fro 1 (x.map encI)] ++ []) (.bool (decide (64 < x.length))) := by
 refine zn func39 Z (by decide) Z<|zSr<|zVzAb Z<|z6<|zSr<|zVzMf Z<|zVGvlenM ji Z<|z7 (q0 Z Z)<|zVzAb Z<|z6<|ze<|zk (x := .bool _) Z ?_
 exact congrArg AV.bool (by simp <;> omega)
theorem hclone_spec (rows : List (List Int)) (hn : rows.length ≤ 1000) (hr : ∀ r ∈ rows, r.length ≤ 1000) : ACall prog E 40 [.fro 1 (rows.map encArr)] [] (fun y O => ∃ jo ids, ids.length = rows.length ∧ y = .own jo rows.length ∧ O = [(jo, .grow 1 37 (ownsA ids rows)), (0, bag (bagA ids rows))]) := by
 refine zn func40 Z (by decide) Z<|zSr<|z7 (zAr Z)<|z6<|zSr<|z7 (zAr Z)<|z6<|adopt_wp (t := 3) (k := 1) (T := 37) Z<|fun i3 => zp GStep.bagNew<|zp (zh (zm .head))<|zp (zh (zm .t1))<|zc<|zSr<|zVzMf Z<|zVGvlenM jn Z<|zVzMi Z<|z6<|zi<|yg (γ := Nat × Nat × List Nat) [6, 7] (fun g => [(8, .int .i64 g.1), (3, .own g.2.1 g.1)]) (fun g => [(g.2.1, .grow 1 37 (ownsA g.2.2 (rows.take g.1))), (0, bag (bagA g.2.2 (rows.take g.1)))]) (fun g => g.1 ≤ rows.length ∧ g.2.2.length = (rows.take g.1).length) (fun g => rows.length - g.1) (0, i3, []) zR2 zLe (⟨q5 _, Z⟩) ?_
 rintro ⟨k, i3, ids⟩ ⟨hk, hids⟩
 try dsimp only at *
 refine zSr<|zVGvlss Z Z<|z6<|zc<|y9 Z (fun ck=>?_) (fun ck=>?_)
 ·have hk2 : k < rows.length := by simp at ck; omega
  obtain ⟨r, her⟩ : ∃ r, rows[k] = r := ⟨_, rfl⟩
  have hrg : rows[k]? = some r := by rw [q3 hk2, her]
  have hrl := hr r (List.mem_of_getElem? hrg)
  have hts : rows.take (k + 1) = rows.take k ++ [r] := by rw [q4 hk2, her]
  have htl : (rows.take k).length = k := by rw [List.length_take]; omega
  refine zj<|zc<|zi<|zSr<|z7 (zIM k jn Z0 Z Z Z hrg)<|zVzLf Zg Z<|z7 (zAf Z)<|z6<|zRg<|z7 (zMo Z)<|AOps.buildSlice0 (k := 1) ji type2<|fun i13 => zVzMf Z<|yo (k := 1) ji type2 Z Z Z Z Z (fun _ => .head) Z (by decide) (by rw [flat_I]; exact cI_cell r) (by show (_ + _) * 8 ≤ _; simp; omega) (by simp; omega)<|fun i15 => yi (rows := [[_]]) ps28_1 Z Z Z Z Z<|yo (k := 1) jn type37 Z Z Z Z Z (fun _ => .t1) (by rw [owns_len hids]; omega) (by decide) Z (by show (k + 1) * 24 ≤ _; omega) (by show k + 1 ≤ _; omega)<|fun i17 => z7 (zAo Z)<|z6<|zp (GStep.bagIn (X' := bagA (ids ++ [i15]) (rows.take k ++ [r])) .head ((by rw [List.nil_append, flat_I]; exact bag_push i15 r hids)) .t1)<|zRg<|zVzAd Z Z<|zVzMi Z<|z6 ?_
  exact ⟨(k + 1, i17, ids ++ [i15]), zR2, zR2, ⟨_, (.refl _), by dsimp only; rw [hts, ← owns_push i15 r hids]; simp; show AV.own i15 _ = _; simp⟩, ⟨hk2, by dsimp only; rw [hts]; simp [hids]⟩, by dsimp only; omega⟩
 ·obtain rfl : k = rows.length := by simp at ck; omega
  rw [q7] at hids
  rw [q7]
  refine yf<|zSr<|z7 (zMo Z)<|z7 (zAo Z)<|z6<|ze<|zk (x := .own _ _) Z ?_
  exact ⟨i3, ids, hids, rfl, rfl⟩
def newBad (rows : List (List Int)) : Bool := decide (32 < rows.length) || rows.any fun r => decide (64 < r.length)
theorem hnew_bad (rows : List (List Int)) (hn : rows.length ≤ 281474976710656) (hb : newBad rows = true) : AFun prog E 22 [.fro 1 (rows.map encArr)] (.tup [.raw (.pointer none), .int .i64 4]) := by
 have hc := containsFuncL_spec (E := E) (c := []) rows hn (fun x _ => hnew1_spec x)
 refine zn func22 Z (by decide) Z<|zSr<|z7 (zAr Z)<|zVzAi Z<|z6<|zc<|zSr<|zVzMf Z<|zVGvlenM jn Z<|z7 (q0 Z Z)<|zVzMb Z<|zx (s := 7) Z (fun c=>?_) (fun c=>?_)
 ·refine z8 Z Z c<|z8 Z Z c<|zVzPt Z c Z<|z6<|zy Z Z<|zSr<|z7 (zAr Z)<|zVzAi Z<|z6<|ze<|yh (x := .raw _) (y := .int _ _) Z Z ?_
  rfl
 ·have ca : ¬ 32 < rows.length := by simp at c; omega
  have hb2 : (rows.any fun r => decide (64 < r.length)) = true := by unfold newBad at hb; simpa [ca] using hb
  refine za Z Z c<|zVzMf Z<|za Z Z c<|zd (hc) Z<|zVzPf Z c Z<|z6<|zy Z hb2<|zSr<|z7 (zAr Z)<|zVzAi Z<|z6<|ze<|yh (x := .raw _) (y := .int _ _) Z Z ?_
  rfl
theorem hnew_good (rows : List (List Int)) (hb : newBad rows = false) : ACall prog E 22 [.fro 1 (rows.map encArr)] [] (fun y O => ∃ jh jo ids, ids.length = rows.length ∧ y = .tup [.po jh 0, .int .i64 0] ∧ O = hO jh jo ids rows) := by
 unfold newBad at hb
 simp only [Bool.or_eq_false_iff, decide_eq_false_iff_not] at hb
 obtain ⟨h1, h2⟩ := hb
 have hr : ∀ r ∈ rows, r.length ≤ 1000 := fun r hr => by
  have := List.any_eq_false.1 h2 r hr
  simp at this; omega
 have hc := containsFuncL_spec (E := E) (c := []) rows (by omega) (fun x _ => hnew1_spec x)
 refine zn func22 Z (by decide) Z<|zSr<|z7 (zAr Z)<|zVzAi Z<|z6<|zc<|zSr<|zVzMf Z<|zVGvlenM jn Z<|z7 (q0 Z Z)<|zVzMb Z<|zx (s := 7) Z (fun c=>?_) (fun c=>?_)
 ·exact absurd (by simp at c; omega) h1
 ·refine za Z Z c<|zVzMf Z<|za Z Z c<|zd (hc) Z<|zVzPf Z c Z<|z6<|zb Z h2<|zj<|zSr<|zVzMf Z<|y7 Z (zr (.rest _)) (hclone_spec rows (by omega) hr) ?_
  rintro r12 O12 ⟨jo, ids, hids, rfl, rfl⟩
  refine z7 (yn (cps := [(0, [_])]) (rs := [_]) pl107 Z Z Z)<|AOps.boxO (cs := _) Z Z Z Z<|fun i14 => z7 (zAp Z)<|zVzAi Z<|z6<|zp (zh (zm .head))<|ze<|yh (x := .po _ _) (y := .int _ _) Z Z ?_
  exact ⟨i14, jo, ids, hids, rfl, rfl⟩
end Go.Proofs.YtoicilchhkndmaaGreatDoor
