/- A slice of one's own, cut to its first part. No conditions but bounds. -/
import Derived.Test.YtpojdepccecpgaaGreatDoorLc
import Derived.Laws.BytesArg
import Derived.ProofKit
import Derived.OpenShut
import Derived.Deep.Matrix
import Derived.Lib.LaidU8
import Derived.Lib.LaidTab
import Derived.MapKept
import Derived.WideMake
import Derived.Laws.Cover4
import Derived.WideLaws
import Derived.Lib.AppendZeros
import Derived.Lib.Builder
import Derived.Lib.AppendStr
import Derived.Lib.UnsafeStr
import Derived.Laws.Externs
set_option linter.unusedVariables false
set_option linter.unusedSimpArgs false
set_option linter.unusedSectionVars false
namespace Go.Proofs.YtpojdepccecpgaaGreatDoor
open Go.Proofs.Tryz
def sortI (l : List Int) : List Int := l.mergeSort fun x y => decide (x ≤ y)
theorem sortI_perm (l : List Int) : (sortI l).Perm l := List.mergeSort_perm l _
theorem sortI_sorted (l : List Int) : (sortI l).Pairwise (· ≤ ·) := by
 have := List.pairwise_mergeSort (le := fun x y : Int => decide (x ≤ y)) (fun a b c h1 h2 => by simp at *; omega) (fun a b => by simp; omega) l
 exact this.imp fun h => by simpa using h
theorem sortI_eq {l m : List Int} (hm : m.Pairwise (· < ·)) : sortI l = m ↔ l.Perm m := by
 constructor
 ·intro h; rw [← h]; exact (sortI_perm l).symm
 ·intro h
  exact List.Perm.eq_of_pairwise (le := fun a b : Int => a ≤ b) (fun a b _ _ h1 h2 => Int.le_antisymm h1 h2) (sortI_sorted l) (hm.imp fun h => Int.le_of_lt h) ((sortI_perm l).trans h)
theorem perm_of_subset {l m : List Int} (hn : l.Nodup) (hs : ∀ x ∈ l, x ∈ m) (hl : m.length ≤ l.length) : l.Perm m := by
 induction l generalizing m with
 | nil => obtain rfl : m = [] := List.eq_nil_of_length_eq_zero (by simpa using hl); exact .refl _
 | cons x l ih =>
  rw [List.nodup_cons] at hn
  have hx := hs x (.head _)
  have h1 : l.Perm (m.erase x) := ih hn.2 (fun y hy => (List.mem_erase_of_ne (fun e => hn.1 (by rw [← e]; exact hy))).2 (hs y (.tail _ hy))) (by
   rw [List.length_erase_of_mem hx]; simp at hl; omega)
  exact (List.Perm.cons x h1).trans (List.perm_cons_erase hx).symm
def JoinR (f : PFunc) (i : Nat) (l : List Int) : Prop := (predsT (EndsOf f) f.blocks.length i).length = l.length ∧ ∀ k (h : k < l.length), (i : Int) ∈ EndsOf f l[k] ∧ l[k] ∉ l.take k
theorem nodup_take {l : List Int} : l.Nodup ↔ ∀ k (h : k < l.length), l[k] ∉ l.take k := by
 induction l with
 | nil => simp
 | cons x l ih =>
  rw [List.nodup_cons, ih]
  constructor
  ·rintro ⟨h1, h2⟩ k hk
   cases k with
   | zero => simp
   | succ k =>
    simp only [List.getElem_cons_succ, List.take_succ_cons, List.mem_cons, not_or]
    have hk' : k < l.length := by simpa using hk
    exact ⟨fun e => h1 (by rw [← e]; exact qq hk'), h2 k hk'⟩
  ·intro h
   constructor
   ·intro hm
    obtain ⟨k, hk, e⟩ := List.mem_iff_getElem.1 hm
    have := h (k + 1) (by simpa using hk)
    simp [e] at this
   ·intro k hk
    have := h (k + 1) (by simpa using hk)
    simp only [List.getElem_cons_succ, List.take_succ_cons, List.mem_cons, not_or] at this
    exact this.2
theorem joinR_iff {f : PFunc} (hE : EndsOk f) {i : Nat} {l : List Int} : JoinR f i l ↔ l.Perm (predsT (EndsOf f) f.blocks.length i) := by
 have hg := hE.grph
 have hp := predsT_nodup (EndsOf_nodup f) f.blocks.length i
 unfold JoinR
 constructor
 ·rintro ⟨h1, h2⟩
  refine perm_of_subset (nodup_take.2 fun k hk => (h2 k hk).2) (fun x hx => ?_) (by omega)
  obtain ⟨k, hk, rfl⟩ := List.mem_iff_getElem.1 hx
  exact (mem_predsT hg.toEOk hg.out).2 (h2 k hk).1
 ·intro h
  have hn := h.nodup_iff.2 hp.1
  exact ⟨h.length_eq.symm, fun k hk => ⟨(mem_predsT hg.toEOk hg.out).1 (h.mem_iff.1 (qq hk)), nodup_take.1 hn k hk⟩⟩
theorem joinS_iff {f : PFunc} {i : Nat} {l : List Int} : sortI l = predsT (EndsOf f) f.blocks.length i ↔ l.Perm (predsT (EndsOf f) f.blocks.length i) := sortI_eq (predsT_nodup (EndsOf_nodup f) f.blocks.length i).2
end Go.Proofs.YtpojdepccecpgaaGreatDoor
namespace Go.Proofs.YtpojdepccecpgaaGreatDoor
open Go.Proofs.Tryz
def setsT (l : List Bool) (bs : List Int) : List Bool := bs.foldl (fun l b => l.set b.toNat true) l
theorem setsT_len : ∀ (bs : List Int) (l : List Bool), (setsT l bs).length = l.length
 | [], _ => rfl
 | b :: bs, l => by show (setsT (l.set b.toNat true) bs).length = _; rw [setsT_len bs, List.length_set]
theorem setsT_snoc (l : List Bool) (bs : List Int) (b : Int) : setsT l (bs ++ [b]) = (setsT l bs).set b.toNat true := by unfold setsT; rw [List.foldl_append]; rfl
theorem setsT_get (k : Nat) : ∀ (bs : List Int) (l : List Bool), (∀ b ∈ bs, 0 ≤ b) → k < l.length → (setsT l bs)[k]? = some (decide ((k : Int) ∈ bs) || (l[k]?).getD false)
 | [], l, _, hk => by show l[k]? = _; rw [qm hk]; simp
 | b :: bs, l, h, hk => by
  show (setsT (l.set b.toNat true) bs)[k]? = _
  rw [setsT_get k bs _ (fun c hc => h c (.tail _ hc)) (by rw [List.length_set]; exact hk), List.getElem?_set]
  have h0 := h b (.head _)
  by_cases e : b.toNat = k
  ·have : (k : Int) = b := by omega
   rw [if_pos e, if_pos (by omega), this]; simp
  ·have : ¬ (k : Int) = b := by omega
   rw [if_neg e]; simp [this]
def reachB (E : Int → List Int) (n : Nat) : List Bool := setsT (List.replicate n false) (orderT E n)
theorem reachB_get {E : Int → List Int} {n : Nat} (hE : EOk E n) {k : Nat} (hk : k < n) : (reachB E n)[k]? = some (decide ((k : Int) ∈ orderT E n)) := by
 unfold reachB
 rw [setsT_get k _ _ (fun b hb => (order_rng hE hb).1) (by simp; exact hk)]
 simp [hk]
def phJ (f : PFunc) (i : Nat) (p : PPhi) : Bool := decide (sortI p.from_ = predsT (EndsOf f) f.blocks.length i)
def blkJ (f : PFunc) (i : Nat) : Bool := ((f.blocks[i]?).map fun b => b.phis.all (phJ f i)).getD true
def joinedB (f : PFunc) : Bool := (List.range f.blocks.length).all (blkJ f)
theorem blkJ_at {f : PFunc} {i : Nat} {b : PBlock} (h : f.blocks[i]? = some b) : blkJ f i = b.phis.all (phJ f i) := by unfold blkJ; rw [h]; rfl
theorem joinedB_iff (f : PFunc) : joinedB f = true ↔ JoinP f := by
 unfold joinedB JoinP
 rw [List.all_eq_true]
 constructor
 ·intro h i hi p hp
  have := h i (List.mem_range.2 hi)
  rw [blkJ_at (qm hi), List.all_eq_true] at this
  exact joinS_iff.1 (by simpa [phJ] using this p hp)
 ·intro h i hi
  have hi := List.mem_range.1 hi
  rw [blkJ_at (qm hi), List.all_eq_true]
  intro p hp
  simpa [phJ] using joinS_iff.2 (h i hi p hp)
theorem range_all_succ {p : Nat → Bool} {k : Nat} (h : (List.range k).all p = true) (hk : p k = true) : (List.range (k + 1)).all p = true := by rw [List.range_succ, List.all_append, h]; simp [hk]
theorem range_all_bad {p : Nat → Bool} {k n : Nat} (hk : k < n) (h : p k = false) : (List.range n).all p = false := by
 rw [Bool.eq_false_iff]; intro ha
 have := List.all_eq_true.1 ha k (List.mem_range.2 hk)
 rw [h] at this; cases this
def evPh (i : Nat) (ps : List PPhi) : List (Int × Plc) := ps.map fun p => (p.dst, ((i : Int), -1))
def evIn (i : Nat) (xs : List PInst) : List (Int × Plc) := (xs.zipIdx.filter fun x => decide (0 ≤ x.1.dst)).map fun x => (x.1.dst, ((i : Int), (x.2 : Int)))
def evBl (i : Nat) (b : PBlock) : List (Int × Plc) := evPh i b.phis ++ evIn i b.insts
def evTo (f : PFunc) (k : Nat) : List (Int × Plc) := ((f.blocks.take k).zipIdx).flatMap fun b => evBl b.2 b.1
theorem zipTake {α : Type} {l : List α} {k : Nat} (h : k < l.length) : (l.take (k + 1)).zipIdx = (l.take k).zipIdx ++ [(l[k], k)] := by
 rw [qn h, List.zipIdx_append, qx, Nat.min_eq_left (by omega)]
 simp
theorem evTo_succ {f : PFunc} {k : Nat} (h : k < f.blocks.length) : evTo f (k + 1) = evTo f k ++ evBl k f.blocks[k] := by
 unfold evTo; rw [zipTake h, List.flatMap_append]; simp
theorem evIn_len (i : Nat) (xs : List PInst) : (evIn i xs).length ≤ xs.length := by
 unfold evIn; rw [qt]; exact Nat.le_trans (List.length_filter_le _ _) (by simp)
theorem evBl_len (i : Nat) (b : PBlock) : (evBl i b).length ≤ b.phis.length + b.insts.length := by
 have := evIn_len i b.insts
 unfold evBl evPh; rw [qs, qt]; omega
theorem evTo_len {f : PFunc} {m : Nat} (h : ∀ b ∈ f.blocks, b.phis.length + b.insts.length ≤ m) : ∀ k, k ≤ f.blocks.length → (evTo f k).length ≤ k * m
 | 0, _ => by simp [evTo]
 | k + 1, hk => by
  have h1 := evTo_len h k (by omega)
  have h2 := evBl_len k f.blocks[k]
  have h3 := h _ (qq (show k < f.blocks.length by omega))
  rw [evTo_succ (by omega), qs, Nat.add_mul]; omega
def aheadB (f : PFunc) (m : Plc) (b at_ : Int) : Bool := if m.1 < 0 then true else if m.1 = b then decide (m.2 < at_) else domB (EndsOf f) f.blocks.length m.1 b
end Go.Proofs.YtpojdepccecpgaaGreatDoor
namespace Go.Proofs.YtpojdepccecpgaaGreatDoor
open Go.Proofs.Tryz
open Go.Proofs
variable {E : World}
set_option maxRecDepth 20000
def okL {α : Type} (l : List α) : Prop := l.length ≤ 140737488355328
def okPhi (p : PPhi) : Prop := okL p.args ∧ okL p.from_
def okBlk (b : PBlock) : Prop := okL b.phis ∧ okL b.insts ∧ (∀ p ∈ b.phis, okPhi p) ∧ (∀ x ∈ b.insts, okL x.args)
def okFunc (f : PFunc) : Prop := okL f.vars ∧ okL f.params ∧ okL f.blocks ∧ ∀ b ∈ f.blocks, okBlk b
theorem okL.lt {α : Type} {l : List α} (h : okL l) : l.length ≤ 140737488355328 := h
theorem jb {x y : Bool} (h : x = y) : AV.bool x = AV.bool y := congrArg AV.bool h
theorem impNil (k : Nat) : ∀ I v, RepV I (.raw (.slice none 0 0)) v → RepV I (.fro k []) v := fun _ _ h => ⟨none, 0, 0, h, rfl, Nat.le_refl _, fun _ => rfl, trivial⟩
theorem eq_arr (a b c d : Int) (w : World) (m : Nat) : (Op.equalIn (m + 2) 64 (.agg [.int .i64 a, .int .i64 b].toArray) (.agg [.int .i64 c, .int .i64 d].toArray)).run prog w = .ok (decide (a = c ∧ b = d)) w := by
 rw [Op.equalIn]
 simp only [Sem.run_bind, run_underlying jl, Result.andThen_ok]
 simp only [Std.Legacy.Range.forIn_eq_forIn_range', Std.Legacy.Range.size, Nat.sub_zero, Nat.add_sub_cancel, Nat.div_one, List.range'_succ, List.range'_zero, List.forIn_cons, List.forIn_nil]
 simp [part, jd, j5, run_equalIn_int, Zd]
 by_cases h1 : a = c <;> by_cases h2 : b = d <;> simp [h1, h2]
theorem equalI_spec (xs ys : List Int) (hl : okL xs) : AFun prog E 78 [.fro 1 (xs.map encI), .fro 1 (ys.map encI)] (.bool (decide (xs = ys))) := by
 have hl := hl.lt
 refine zl func78 Z (by decide) Z<|zSr<|zVzAb Z<|z6<|zb<|zSr<|zVzMf Z<|zVGvlenM j4 Z<|zVzMf Z<|zVGvlenM j4 Z<|z8 (yl Z Z)<|z6<|zz Z (fun c0=>?_) (fun c0=>?_)
 ·have h : ¬ xs = ys := fun e => by subst e; simp at c0
  refine zSr<|zVzAb Z<|z6<|zf<|zj (x := .bool _) Z ?_
  rw [qz h]
 ·have hl2 : xs.length = ys.length := by simp at c0; omega
  refine ze<|zb<|zSr<|zVzMf Z<|zVGvlenM j4 Z<|zVzMi Z<|z6<|zh<|y3 (γ := Nat) [0, 1, 12] (fun k => [(13, .int .i64 k)]) (fun k => []) (fun k => k ≤ xs.length ∧ xs.take k = ys.take k) (fun k => xs.length - k) 0 zR1 zLe (⟨qp _, Z⟩) ?_
  rintro k ⟨hk, he⟩
  refine zSr<|zVGvlss Z Z<|z6<|zb<|zk Z (fun ck=>?_) (fun ck=>?_)
  ·have hk2 : k < xs.length := by omega
   have hk3 : k < ys.length := by omega
   refine ze<|zb<|zh<|zSr<|zVzMi Z<|zVzAi Z<|z6<|zb<|zq (fun j => false) (by kernel_rfl) Z (zr (.rest _))<|zTk 0 Z (zMf Z)<|zTk 1 Z (zMi Z)<|zTk 2 Z (yv j4 j5 Z Z Z (qm (by omega)))<|zTk 3 Z (zLi jd Z)<|zTk 4 Z (zMf Z)<|zTk 5 Z (zMi Z)<|zTk 6 Z (yv j4 j5 Z Z Z (qm (by omega)))<|zTk 7 Z (zLi jd Z)<|zTk 8 Z (yl Z Z)<|zDn<|zz Z (fun cd=>?_) (fun cd=>?_)
   ·refine zSr<|zVzAb Z<|z6<|zf<|zj (x := .bool _) Z ?_
    rw [qz (ne_at hk2 hk3 (by simpa using cd))]
   ·refine ze<|zRg<|zVzAd Z Z<|zVzMi Z<|z6 ?_
    exact ⟨k + 1, zR3, zR1, zLe, ⟨hk2, take_push hk2 hk3 he (by simpa using cd)⟩, by omega⟩
  ·refine y2<|zSr<|zVzAb Z<|z6<|zf<|zj (x := .bool _) Z ?_
   rw [qy (take_done hl2 (by omega) he)]
end Go.Proofs.YtpojdepccecpgaaGreatDoor
namespace Go.Proofs.YtpojdepccecpgaaGreatDoor
open Go.Proofs.Tryz
section
variable {E : World} {P : Program} {env : AEnv} {O : OL} {d ty : Nat} {pos : String} {af : Array Edge} {x y : Operand} {t u e : TypeId}
theorem Gv.rem {k : IntKind} {a b : Int} (hx : aev env x = .int k a) (hy : aev env y = .int k b) (hb : b ≠ 0) : Gv P env O (Oper.mk (some d) (.binOp .rem t x y u) ty pos af none) (.int k (a.tmod b)) := qi fun I ρ h => ⟨_, rfl, fun w => by
 rw [run_bin_int (evI h hx) (evI h hy) (by decide) (by decide)]; simp [binOp, Op.intDiv, hb]⟩
theorem Gv.quo {k : IntKind} {a b : Int} (hx : aev env x = .int k a) (hy : aev env y = .int k b) (hb : b ≠ 0) : Gv P env O (Oper.mk (some d) (.binOp .quo t x y u) ty pos af none) (.int k (k.wrap (a.tdiv b))) := qi fun I ρ h => ⟨_, rfl, fun w => by
 rw [run_bin_int (evI h hx) (evI h hy) (by decide) (by decide)]; simp [binOp, Op.intDiv, hb]⟩
theorem Gv.neg {k : IntKind} {a : Int} (hx : aev env x = .int k a) : Gv P env O (Oper.mk (some d) (.unOp .neg t x) ty pos af none) (.int k (k.wrap (0 - a))) := qi fun I ρ h => ⟨_, rfl, fun w => by
 simp [execOp, evI h hx, Op.unary, Op.intArith]⟩
theorem Gv.conv {k k' : IntKind} {a : Int} {ds : TypeDesc} {src dst : TypeId} (hs : P.underlying src = some ds) (hd : P.underlying dst = some (.int k')) (hx : aev env x = .int k a) : Gv P env O (Oper.mk (some d) (.convert src dst x) ty pos af none) (.int k' (k'.wrap a)) := qi fun I ρ h => ⟨_, rfl, fun w => by
 simp only [execOp, evI h hx]
 cases ds <;> simp [convert, run_underlying hs, run_underlying hd, Conv.intToInt]⟩
end
end Go.Proofs.YtpojdepccecpgaaGreatDoor
namespace Go.Proofs.YtpojdepccecpgaaGreatDoor
open Go.Proofs.Tryz
section
variable {E : World} {P : Program} {n : Nat} {l : List Oper} {W : Nat → Bool} {Q : AEnv → OL → Prop} {fuel : Nat} {listed : Array Bool} {env : AEnv} {O Os Om : OL}
theorem AAny.two {i j : Nat} {o o' : Oper} (hi : l[i]? = some o) (hj : l[j]? = some o') (hr : Region.ready .any l.toArray listed = [i, j])
  (h : AOps P E l.toArray (fun env' Om' => AAny P E l W Q fuel (listed.setIfInBounds i true) env' Os Om') [o] env Om)
  (h' : AOps P E l.toArray (fun env' Om' => AAny P E l W Q fuel (listed.setIfInBounds j true) env' Os Om') [o'] env Om) : AAny P E l W Q (fuel + 1) listed env Os Om := fun I F ρ w Ls h1 hLs h2 => by
 have key : ∀ k ok, AOps P E l.toArray (fun env' Om' => AAny P E l W Q fuel (listed.setIfInBounds k true) env' Os Om') [ok] env Om →
   Ops P l.toArray (fun ρ' w' => (stays I.k [] E w' ∧ (dirty W (listed.setIfInBounds k true) ∨ stays I.k Ls E w')) ∧ AnyV P l.toArray (stays I.k [] E) (stays I.k Ls E) W (postK I F E Q) fuel (listed.setIfInBounds k true) ρ' w') [ok] ρ w := fun k ok h =>
  yx (fun ρ' w' ⟨J, env', Om', a, b, c, d⟩ => by
   have hst : stays I.k Ls E w' := by
    obtain ⟨J', L', h3, h4, h5⟩ := c.here
    exact ⟨J', L', a.k.trans h3, h4, h5⟩
   refine ⟨⟨hst.less, .inr hst⟩, AnyV.mono ?_ ?_ (fun _ _ => qb a) _ _ _ _ (d J F ρ' w' Ls b (hLs.mono a) c)⟩
   ·rintro w ⟨J', L', h3, h4⟩; exact ⟨J', L', a.k.trans h3, h4⟩
   ·rintro w ⟨J', L', h3, h4⟩; exact ⟨J', L', a.k.trans h3, h4⟩) _ _ _ (h I (Ls ++ F) ρ w h1 h2)
 refine ⟨fun h0 => (by rw [hr] at h0; cases h0), fun k hk o2 ho2 => ?_⟩
 rw [hr] at hk
 simp only [List.mem_cons, List.not_mem_nil, or_false] at hk
 rw [List.getElem?_toArray] at ho2
 rcases hk with rfl | rfl
 ·rw [hi] at ho2; cases ho2; exact key _ _ h
 ·rw [hj] at ho2; cases ho2; exact key _ _ h'
end
end Go.Proofs.YtpojdepccecpgaaGreatDoor
namespace Go.Proofs.YtpojdepccecpgaaGreatDoor
open Go.Proofs.Tryz
section
variable {E : World} {P : Program} {n : Nat} {l : List Oper} {W : Nat → Bool} {Q : AEnv → OL → Prop} {fuel : Nat} {listed : Array Bool} {env : AEnv} {O Os Om : OL}
theorem AAny.three {i j m : Nat} {o o' o'' : Oper} (hi : l[i]? = some o) (hj : l[j]? = some o') (hm : l[m]? = some o'') (hr : Region.ready .any l.toArray listed = [i, j, m])
  (h : AOps P E l.toArray (fun env' Om' => AAny P E l W Q fuel (listed.setIfInBounds i true) env' Os Om') [o] env Om)
  (h' : AOps P E l.toArray (fun env' Om' => AAny P E l W Q fuel (listed.setIfInBounds j true) env' Os Om') [o'] env Om)
  (h'' : AOps P E l.toArray (fun env' Om' => AAny P E l W Q fuel (listed.setIfInBounds m true) env' Os Om') [o''] env Om) : AAny P E l W Q (fuel + 1) listed env Os Om := fun I F ρ w Ls h1 hLs h2 => by
 have key : ∀ k ok, AOps P E l.toArray (fun env' Om' => AAny P E l W Q fuel (listed.setIfInBounds k true) env' Os Om') [ok] env Om →
   Ops P l.toArray (fun ρ' w' => (stays I.k [] E w' ∧ (dirty W (listed.setIfInBounds k true) ∨ stays I.k Ls E w')) ∧ AnyV P l.toArray (stays I.k [] E) (stays I.k Ls E) W (postK I F E Q) fuel (listed.setIfInBounds k true) ρ' w') [ok] ρ w := fun k ok h =>
  yx (fun ρ' w' ⟨J, env', Om', a, b, c, d⟩ => by
   have hst : stays I.k Ls E w' := by
    obtain ⟨J', L', h3, h4, h5⟩ := c.here
    exact ⟨J', L', a.k.trans h3, h4, h5⟩
   refine ⟨⟨hst.less, .inr hst⟩, AnyV.mono ?_ ?_ (fun _ _ => qb a) _ _ _ _ (d J F ρ' w' Ls b (hLs.mono a) c)⟩
   ·rintro w ⟨J', L', h3, h4⟩; exact ⟨J', L', a.k.trans h3, h4⟩
   ·rintro w ⟨J', L', h3, h4⟩; exact ⟨J', L', a.k.trans h3, h4⟩) _ _ _ (h I (Ls ++ F) ρ w h1 h2)
 refine ⟨fun h0 => (by rw [hr] at h0; cases h0), fun k hk o2 ho2 => ?_⟩
 rw [hr] at hk
 simp only [List.mem_cons, List.not_mem_nil, or_false] at hk
 rw [List.getElem?_toArray] at ho2
 rcases hk with rfl | rfl | rfl
 ·rw [hi] at ho2; cases ho2; exact key _ _ h
 ·rw [hj] at ho2; cases ho2; exact key _ _ h'
 ·rw [hm] at ho2; cases ho2; exact key _ _ h''
end
theorem ACall.know {E : World} {P : Program} {f : FuncId} {as0 : List AV} {O : OL} {R R' : AV → OL → Prop} (h : ACall P E f as0 O R) (hr : ∀ I F w v x O', R x O' → RepV I x v → SLA I O' F E w → ∃ J y O'', I.le J ∧ RepV J y v ∧ SLA J O'' F E w ∧ R' y O'') : ACall P E f as0 O R' := fun I F w vs h1 h2 =>
 (h I F w vs h1 h2).mono fun v w' ⟨J, x, O', a, b, c, d⟩ => by
  obtain ⟨K, y, O'', e1, e2, e3, e4⟩ := hr J F w' v x O' d b c
  exact ⟨K, y, O'', a.trans e1, e2, e3, e4⟩
theorem Put.has {O O' : OL} {i : Nat} {o o' : AObj} (h : Put O i o o' O') : Has O i o := by
 induction h with
 | head => exact .head
 | tail _ ih => exact ih.tail
end Go.Proofs.YtpojdepccecpgaaGreatDoor
namespace Go.Proofs.YtpojdepccecpgaaGreatDoor
open Go.Proofs.Tryz
theorem Pick.perm {O O' : OL} {i : Nat} {o : AObj} (h : Pick O i o O') : O.Perm ((i, o) :: O') := by
 induction h with
 | head => exact .refl _
 | tail _ ih => exact (ih.cons _).trans (.swap _ _ _)
section
variable {E : World} {P : Program} {f : FuncId} {as0 : List AV} {O : OL}
theorem ACall.exact {γ : Type} {x : γ → AV} {M : γ → OL} {p : γ → Prop} (h : ACall P E f as0 O (fun y O' => ∃ g, y = x g ∧ Left O' (M g) ∧ p g)) : ACall P E f as0 O (fun y O' => ∃ g, y = x g ∧ O' = M g ∧ p g) :=
 h.know fun I F w v y O' ⟨g, e, hl, hp⟩ h1 h2 => ⟨I, y, M g, .refl _, h1, hl.sla h2, g, e, rfl, hp⟩
theorem ACall.frozen {k m : Nat} {T : TypeId} {rows : List (List AV)} (h : ACall P E f as0 [] (fun y O' => ∃ i : Nat, y = .own i m ∧ Left O' [(i, .grow k T rows.flatten)] ∧ True)) (hk : ∀ r ∈ rows, r.length = k) (hk0 : 0 < k) (hm : rows.length = m) : AFun P E f as0 (.fro k rows) :=
 h.know fun I F w v y O' ⟨i, e, hl, _⟩ h1 h2 => by
  subst e
  obtain ⟨J, h3, h4, h5⟩ := Go.Proofs.YtpojdepccecpgaaGreatDoor.know .head hk hk0 hm (hl.sla h2)
  exact ⟨J, _, [], h3, h5 _ h1, h4, rfl⟩
end
end Go.Proofs.YtpojdepccecpgaaGreatDoor
namespace Go.Proofs.YtpojdepccecpgaaGreatDoor
open Go.Proofs.Tryz
open Go.ChangeShapes Go.WideShapes Go.ChangeAt Go.RowKit Go.Deep
def full (W : World) : Ghost := fun b => W.heap[b]?
theorem full_sl (W : World) : SL (full W) [] W W := ⟨rfl, rfl, rfl, fun _ _ h => h, by simp, by simp, by simp, fun _ _ h => h, (fun _ _ h h2 => by rw [show W.heap[_]? = some _ from h] at h2; cases h2), by simp⟩
def I0 (W : World) : G := ⟨full W, fun _ => none⟩
theorem cell_known {W : World} {p : Addr} {v : Value} (h : W.cell? p = some v) : p = ⟨p.block, p.off, none⟩ ∧ KAt (full W) p.block p.off v := by
 unfold World.cell? at h
 split at h
 ·rename_i c t f hb
  split at h
  ·cases h
  ·rename_i hs
   have : p.spot = none := by simpa using hs
   obtain ⟨b, o, s⟩ := p
   simp only at this
   subst this
   exact ⟨rfl, ⟨c, t, f, hb, h⟩⟩
 ·cases h
def Dec (P : Program) (W : World) (T : TypeId) {α : Type} (enc : α → List AV) (ok : α → Prop) : Prop :=
 ∀ {H : Type} (e : TypeId × Value → H) (held : Bool) (fuel : Nat) (cs : List Value) (x : DataW H × List MemPlace), DataW.trod e P W 0 (fun _ => true) held fuel T cs = some x → ∃ a, ok a ∧ RepL (I0 W) (enc a) cs
section
variable {P : Program} {W : World} {T e : TypeId}
theorem Dec.int {k : IntKind} (hu : P.underlying T = some (.int k)) : Dec P W T (fun x : Int => [.int k x]) (fun x => (Lit.int k x).wf = true) := fun _ _ _ _ _ h => by
 obtain ⟨n, rfl, _, hw⟩ := DataW.trod_int hu h
 exact ⟨n, hw, _, _, rfl, rfl, rfl⟩
theorem Dec.bool (hu : P.underlying T = some .bool) : Dec P W T (fun x : Bool => [.bool x]) (fun _ => True) := fun _ _ _ _ _ h => by
 obtain ⟨n, rfl, _⟩ := DataW.trod_bool hu h
 exact ⟨n, trivial, _, _, rfl, rfl, rfl⟩
theorem Dec.str (hu : P.underlying T = some .string) : Dec P W T (fun x : ByteArray => [.str x]) (fun x => x.size ≤ maxLen) := fun _ _ _ _ _ h => by
 obtain ⟨n, rfl, _, hw⟩ := DataW.trod_string hu h
 exact ⟨n, hw, _, _, rfl, rfl, rfl⟩
theorem Dec.slice {α : Type} {enc : α → List AV} {ok : α → Prop} {k : Nat} (ht : P.underlying T = some (.slice e)) (he : Dec P W e enc ok) (hk : P.cellsOf e = k) (hk0 : 0 < k) :
  Dec P W T (fun xs : List α => [.fro k (xs.map enc)]) (fun xs => (∀ x ∈ xs, ok x) ∧ xs.length ≤ maxLen) := fun en held fuel cs x h => by
 rcases open_slice ht h with ⟨rfl, _⟩ | ⟨a, len, cap, m, n, D, Pl, rfl, _, hl, hc, hm, _, hr⟩
 ·exact ⟨[], ⟨by simp, qp _⟩, _, _, rfl, ⟨none, 0, 0, rfl, rfl, Nat.le_refl _, fun _ => rfl, trivial⟩, rfl⟩
 ·simp only [if_true] at hm
  have each : ∀ i, i < len → ∃ y : α, ok y ∧ ∃ vs : List Value, vs.length = k ∧ RepL (I0 W) (enc y) vs ∧ ∀ j (u : Value), vs[j]? = some u → W.cell? (a.add (i * k + j)) = some u := by
   intro i hi
   obtain ⟨cs, h1, h2⟩ := hr i (by omega)
   rw [hk] at h1
   obtain ⟨_, hcl, hat⟩ := World.cells?_some h1
   obtain ⟨y, hy, hrep⟩ := he en held n cs _ h2
   refine ⟨y, hy, cs, hcl, hrep, fun j u hu => ?_⟩
   have hj : j < k := by have := (List.getElem?_eq_some_iff.1 hu).1; omega
   have := hat j hj
   rw [Go.Deep.add_add] at this
   rw [this, hu]
  by_cases h0 : len = 0
  ·subst h0
   exact ⟨[], ⟨by simp, qp _⟩, _, _, rfl, ⟨some a, 0, cap, rfl, rfl, qp _, fun h => by (cases h), trivial⟩, rfl⟩
  ·obtain ⟨y0, _⟩ := each 0 (by omega)
   have : Inhabited α := ⟨y0⟩
   obtain ⟨Y, hY⟩ := choose_lt each
   have ha : a = ⟨a.block, a.off, none⟩ := by
    obtain ⟨_, vs, hvl, _, hat⟩ := hY 0 (by omega)
    have := hat 0 _ (qm (show 0 < vs.length by omega))
    rw [Nat.zero_mul] at this
    exact (cell_known (by simpa [Addr.add] using this)).1
   refine ⟨(List.range len).map Y, ⟨?_, by simp; omega⟩, _, _, Z, ⟨some a, len, cap, Z, by simp, hl, fun h => by (cases h), RepR.intro fun j r hj => ?_⟩, Z⟩
   ·intro x hx
    obtain ⟨i, hi, rfl⟩ := List.mem_map.1 hx
    exact (hY i (by simpa using hi)).1
   ·rw [qu, qu] at hj
    have hjl : j < len := by
     rcases Nat.lt_or_ge j len with h | h
     ·exact h
     ·rw [List.getElem?_eq_none (by simpa using h)] at hj; cases hj
    rw [List.getElem?_range hjl] at hj
    simp only [Option.map_some, Option.some.injEq] at hj
    subst hj
    obtain ⟨_, vs, hvl, hrep, hat⟩ := hY j hjl
    refine ⟨a.block, a.off, vs, by rw [← ha], hvl, hrep, fun i u hu => ?_⟩
    have := hat i u hu
    rw [ha, addr_add] at this
    have := (cell_known this).2
    rw [Nat.zero_add, Nat.add_assoc]; exact this
theorem RepL.fld {I : G} {cs : List Value} {e es : List AV} {o k : Nat} (h1 : RepL I e ((cs.drop o).take k)) (h2 : RepL I es (cs.drop (o + k))) : RepL I (e ++ es) (cs.drop o) := by
 have := h1.append h2
 rwa [← List.drop_drop, List.take_append_drop] at this
theorem RepL.fin {I : G} {cs : List Value} {o : Nat} (h : cs.length = o) : RepL I [] (cs.drop o) := List.drop_eq_nil_of_le (by omega)
theorem Dec.at {α : Type} {enc : α → List AV} {ok : α → Prop} {f : Field} {H : Type} {en : TypeId × Value → H} {held : Bool} {n o k i : Nat} {cs : List Value} {xs : List (DataW H × List MemPlace)}
  (h1 : DataW.trod en P W 0 (fun _ => true) held n f.type ((cs.drop f.offset).take (P.cellsOf f.type)) = xs[i]?) (hd : Dec P W f.type enc ok) (h2 : i < xs.length) (ho : f.offset = o) (hk : P.cellsOf f.type = k) :
  ∃ a, ok a ∧ RepL (I0 W) (enc a) ((cs.drop o).take k) := by
 rw [qm h2, ho, hk] at h1
 exact hd en held n _ _ h1
theorem Dec.pair {α : Type} {enc : α → List AV} {ok : α → Prop} {k : Nat} (ht : P.underlying T = some (.array 2 e)) (he : Dec P W e enc ok) (hk : P.cellsOf e = k) (hT : P.cellsOf T = k + k) :
  Dec P W T (fun x : α × α => enc x.1 ++ enc x.2) (fun x => ok x.1 ∧ ok x.2) := fun en held fuel cs x h => by
 obtain ⟨xs, m, _, _, hl, hxl, hf⟩ := DataW.trod_array ht h
 have h0 := hf 0 (by omega)
 have h1 := hf 1 (by omega)
 rw [qm (by omega), hk] at h0 h1
 rw [Nat.zero_mul] at h0
 rw [Nat.one_mul] at h1
 obtain ⟨a, ha, ra⟩ := he en held m _ _ h0
 obtain ⟨b, hb, rb⟩ := he en held m _ _ h1
 refine ⟨(a, b), ⟨ha, hb⟩, ?_⟩
 have hcl : cs.length = k + k := by rw [hl, hT]
 have h2 : (cs.drop k).take k = cs.drop k := List.take_of_length_le (by rw [List.length_drop]; omega)
 rw [h2] at rb
 have := ra.append rb
 rw [List.drop_zero, List.take_append_drop] at this
 exact this
theorem Dec.map {α β : Type} {enc : α → List AV} {ok : α → Prop} {enc' : β → List AV} {ok' : β → Prop} (h : Dec P W T enc ok) (g : α → β) (he : ∀ a, enc' (g a) = enc a) (hk : ∀ a, ok a → ok' (g a)) : Dec P W T enc' ok' := fun en held fuel cs x hx => by
 obtain ⟨a, h1, h2⟩ := h en held fuel cs x hx
 exact ⟨g a, hk a h1, by rw [he]; exact h2⟩
end
theorem tabIs_of_reads {P : Program} {W : World} {name : String} {k : IntKind} {zs : List Int} {g : Nat} {t e : TypeId} {n : Nat}
  (hg : P.globalNamed name = some g) (hty : (P.globals[g]?).map (·.type) = some t) (ht : P.underlying t = some (.array n e)) (he : P.underlying e = some (.int k)) (hce : P.cellsOf e = 1) (hct : P.cellsOf t = n)
  (h : Lib.VarReads P W name (Lib.tabData k zs)) : Lib.TabIs P W name k zs := by
 obtain ⟨g', t', cs, fuel, p, hg', ht', hvar, hd⟩ := h
 obtain rfl := Option.some.inj (hg.symm.trans hg')
 obtain rfl := Option.some.inj (hty.symm.trans ht')
 unfold Lib.TabIs
 rw [hvar, ← Lib.cells_of_tab ht he hce hct hd]
theorem AFun.call {P : Program} {W : World} {f : FuncId} {us : List AV} {vs : List Value} {r : AV} (h : AFun P W f us r) (hr : RepL (I0 W) us vs) (hp : r.plain = true) : Calls P f vs.toArray W fun e w' => ∃ v, e = .returned v ∧ RepV (I0 W) r v ∧ Below W.heap.size W w' := by
 have := (h (I0 W) [] W vs hr ⟨⟨0, fun _ _ => rfl⟩, [], rfl, full_sl W⟩).2
 refine this.mono fun e w' ⟨v, he, J, x, O', hle, hx, hS, hxr⟩ => ⟨v, he, ?_, ?_⟩
 ·subst hxr; exact AV.plain_rep hp hx
 ·obtain ⟨_, L, _, hSL⟩ := hS
  exact hSL.belowE
end Go.Proofs.YtpojdepccecpgaaGreatDoor
namespace Go.Proofs.YtpojdepccecpgaaGreatDoor
open Go.Proofs.Tryz
def gdiff (J : Ghost) (E : World) : Ghost := fun b => match E.heap[b]? with
 | none => J b
 | some _ => none
theorem gdiff_some {J : Ghost} {E : World} {b : Nat} {o : Obj} (h : gdiff J E b = some o) : E.heap[b]? = none ∧ J b = some o := by
 unfold gdiff at h
 cases hE : E.heap[b]? with
 | none => rw [hE] at h; exact ⟨rfl, h⟩
 | some x => rw [hE] at h; cases h
theorem gdiff_le {I J : Ghost} (E : World) (h : I.le J) : (gdiff I E).le (gdiff J E) := fun b o hb => by
 obtain ⟨h1, h2⟩ := gdiff_some hb
 unfold gdiff
 rw [h1]; exact h _ _ h2
def GD (J : Ghost) (E : World) : G := ⟨gdiff J E, fun _ => none⟩
theorem GD.le {I J : Ghost} (E : World) (h : I.le J) : (GD I E).le (GD J E) := ⟨gdiff_le E h, fun _ _ h => by cases h⟩
def newv (E : World) (x : AV) : AV := .ext fun J v => RepV (GD J E) x v
theorem newv_rep {I : G} {E : World} {x : AV} {v : Value} (h : RepV I (newv E x) v) : RepV (GD I.k E) x v := h.2 _ (.refl _)
def Up (E : World) (xs ys : List AV) : Prop := ∀ (I : G) vs, RepL I xs vs → RepL (GD I.k E) ys vs
theorem Up.nil {E : World} : Up E [] [] := fun _ _ h => h
theorem Up.int {E : World} {k : IntKind} {n : Int} {xs ys : List AV} (h : Up E xs ys) : Up E (.int k n :: xs) (.int k n :: ys) := fun I _ ⟨v, us, e, h1, h2⟩ => ⟨v, us, e, h1, h I us h2⟩
theorem Up.str {E : World} {s : ByteArray} {xs ys : List AV} (h : Up E xs ys) : Up E (.str s :: xs) (.str s :: ys) := fun I _ ⟨v, us, e, h1, h2⟩ => ⟨v, us, e, h1, h I us h2⟩
theorem Up.new {E : World} {x : AV} {xs ys : List AV} (h : Up E xs ys) : Up E (newv E x :: xs) (x :: ys) := fun I _ ⟨v, us, e, h1, h2⟩ => ⟨v, us, e, newv_rep h1, h I us h2⟩
theorem Up.append {E : World} {a b c d : List AV} (h1 : Up E a c) (h2 : Up E b d) : Up E (a ++ b) (c ++ d) := fun I vs h => by
 have e1 := h.take a.length
 have e2 := h.drop a.length
 rw [List.take_left] at e1
 rw [List.drop_left] at e2
 have := (h1 I _ e1).append (h2 I _ e2)
 rwa [List.take_append_drop] at this
theorem Up.map {E : World} {α : Type} {enc enc' : α → List AV} (h : ∀ x, Up E (enc x) (enc' x)) : ∀ l : List α, Up E (l.map enc).flatten (l.map enc').flatten
 | [] => Up.nil
 | x :: l => by simpa using (h x).append (Up.map h l)
section
variable {E : World} {P : Program} {n : Nat} {env : AEnv} {O O' O'' : OL} {i k m : Nat} {T : TypeId} {rows rows' : List (List AV)}
end
section
variable {E : World} {P : Program} {f : FuncId} {us bs : List AV} {r : AV}
theorem RepL.imp {I J : G} {g h : AV → AV} (hi : ∀ c v, RepV I (g c) v → RepV J (h c) v) : ∀ (cs : List AV) (vs : List Value), RepL I (cs.map g) vs → RepL J (cs.map h) vs
 | [], _, e => e
 | _ :: cs, _, ⟨v, us, e, h1, h2⟩ => ⟨v, us, e, hi _ _ h1, RepL.imp hi cs us h2⟩
end
def TurnV (B : Nat) : Value → Value → Prop
 | .int k _, v' => ∃ n, v' = .int k n
 | .string s, v' => ∃ s', v' = .string s' ∧ s'.size ≤ s.size + B
 | v, v' => v' = v
def TurnO (B : Nat) : Obj → Obj → Prop
 | .cells c T _, o' => ∃ c' : Array Value, o' = .cells c' T (0, 0) ∧ c'.size = c.size ∧ ∀ (i : Nat) v, c[i]? = some v → ∃ v', c'[i]? = some v' ∧ TurnV B v v'
 | o, o' => o' = o
def Turned (B : Nat) : List (Nat × Obj) → List (Nat × Obj) → Prop
 | [], L' => L' = []
 | (b, o) :: L, L' => ∃ o' R, L' = (b, o') :: R ∧ TurnO B o o' ∧ Turned B L R
theorem TurnV.refl (B : Nat) (v : Value) : TurnV B v v := by
 cases v <;> first | exact rfl | exact ⟨_, rfl⟩ | exact ⟨_, rfl, Nat.le_add_right _ _⟩
theorem TurnV.more {B B' : Nat} (h : B ≤ B') {v v' : Value} (hv : TurnV B v v') : TurnV B' v v' := by
 cases v <;> first | exact hv | (obtain ⟨s', e, hs⟩ := hv; exact ⟨s', e, by omega⟩)
theorem TurnO.more {B B' : Nat} (h : B ≤ B') {v v' : Obj} (hv : TurnO B v v') : TurnO B' v v' := by
 cases v <;> first | exact hv | (obtain ⟨s', e, hs, h2⟩ := hv; exact ⟨s', e, hs, fun i v hi => let ⟨v', a, b⟩ := h2 i v hi; ⟨v', a, b.more h⟩⟩)
theorem Turned.more {B B' : Nat} (h : B ≤ B') : ∀ {L L' : List (Nat × Obj)}, Turned B L L' → Turned B' L L'
 | [], _, e => e
 | _ :: _, _, ⟨o', R, e, h1, h2⟩ => ⟨o', R, e, h1.more h, Turned.more h h2⟩
theorem Turned.refl (B : Nat) : ∀ {L : List (Nat × Obj)}, (∀ y ∈ L, flatO y.2) → Turned B L L
 | [], _ => rfl
 | (b, o) :: L, h => ⟨o, L, rfl, by
   have := h (b, o) (.head _)
   cases o <;> first | exact rfl | (have this : _ = (0, 0) := this; subst this; exact ⟨_, rfl, rfl, fun i v hv => ⟨v, hv, .refl _ _⟩⟩), Turned.refl B fun y hy => h y (.tail _ hy)⟩
theorem Turned.at {B : Nat} {b : Nat} {c : Array Value} {T : TypeId} {fz : Nat × Nat} : ∀ {L L' : List (Nat × Obj)}, Turned B L L' → L.lookup b = some (.cells c T fz) →
  ∃ c' X Y, L' = X ++ (b, .cells c' T (0, 0)) :: Y ∧ c'.size = c.size ∧ (∀ (i : Nat) v, c[i]? = some v → ∃ v', c'[i]? = some v' ∧ TurnV B v v') ∧
   ∀ B' (c'' : Array Value), B ≤ B' → c''.size = c.size → (∀ (i : Nat) v, c[i]? = some v → ∃ v', c''[i]? = some v' ∧ TurnV B' v v') → Turned B' L (X ++ (b, .cells c'' T (0, 0)) :: Y)
 | [], _, _, h => by cases h
 | (a, o) :: L, L', ⟨o', R, e, h1, h2⟩, h => by
  rw [List.lookup_cons] at h
  cases hb : b == a with
  | true =>
   rw [hb] at h
   cases h
   have hba : b = a := by simpa using hb
   subst hba
   obtain ⟨c', rfl, hs, hc⟩ := h1
   exact ⟨c', [], R, e, hs, hc, fun B' c'' hB hs' hc' => ⟨_, R, rfl, ⟨c'', rfl, hs', hc'⟩, h2.more hB⟩⟩
  | false =>
   rw [hb] at h
   obtain ⟨c', X, Y, rfl, hs, hc, hk⟩ := Turned.at h2 h
   exact ⟨c', (a, o') :: X, Y, e, hs, hc, fun B' c'' hB hs' hc' => ⟨o', _, rfl, h1.more hB, hk B' c'' hB hs' hc'⟩⟩
section
variable {E : World} {P : Program} {n : Nat} {ops : Array Oper} {K : AEnv → OL → Prop} {env : AEnv} {O O' : OL} {rest : List Oper}
variable {d ty : Nat} {pos : String} {af : Array Edge} {t e : TypeId} {x y : Operand} {L : List (Nat × Obj)}
theorem GStep.turn (hP : Put O 0 (.heap (fun L' => L' = L)) (.heap (Turned 0 L)) O') : GStep E env O env O' := fun I F ρ w h1 ⟨ht, L0, hL, hS⟩ => by
 obtain ⟨A, B, hp, hA, hback⟩ := hP.rep hL
 have hA : A = L := hA
 subst hA
 obtain ⟨L', h3, h4⟩ := hback (G.le.refl I) (A' := A) (Turned.refl 0 fun y hy => hS.oflat y (List.mem_append_left _ (hp.mem_iff.2 (List.mem_append_left _ hy))))
 exact ⟨I, .refl _, h1, ht, L', h3, hS.perm ((h4.trans hp.symm).append_right F)⟩
end
end Go.Proofs.YtpojdepccecpgaaGreatDoor
namespace Go.Proofs.YtpojdepccecpgaaGreatDoor
open Go.Proofs.Tryz
section
variable {E : World} {P : Program} {n : Nat} {ops : Array Oper} {K : AEnv → OL → Prop} {env : AEnv} {O O' : OL} {rest : List Oper}
variable {d ty : Nat} {pos : String} {af : Array Edge} {t e : TypeId} {x y : Operand}
theorem RepR.drop {I : G} {k n c j : Nat} {a : Option Addr} {rows : List (List AV)} (hn : n = rows.length) (hnc : n ≤ c) (hr : RepR I k a 0 rows) : RepR I k (if c = j then a else a.map (·.add (j * k))) 0 (rows.drop j) :=
 RepR.intro fun j' r hj => by
  rw [List.getElem?_drop] at hj
  have hlt := (List.getElem?_eq_some_iff.1 hj).1
  obtain ⟨b, off, vs, rfl, h4, h5, h6⟩ := hr.get hj
  rw [if_neg (by omega)]
  refine ⟨b, off + j * k, vs, by simp [Addr.add], h4, h5, fun i u hu => ?_⟩
  have := h6 i u hu
  rw [Nat.zero_add, Nat.add_mul] at this
  rw [Nat.zero_add]
  rwa [← Nat.add_assoc] at this
theorem RepR.take {I : G} {k j : Nat} {a : Option Addr} {rows : List (List AV)} (hr : RepR I k a 0 rows) : RepR I k a 0 (rows.take j) :=
 RepR.intro fun j' r hj => by
  rw [List.getElem?_take] at hj
  split at hj
  ·exact hr.get hj
  ·cases hj
theorem Gv.cutLo {k j : Nat} {a : Int} {rows : List (List AV)} (ht : P.underlying t = some (.slice e)) (hs : ∀ w, (sizeOf e).run P w = .ok k w) (hx : aev env x = .fro k rows) (hy : aev env y = .int .i64 a) (hi : a = (j : Int)) (hj : j ≤ rows.length) :
  Gv P env O (Oper.mk (some d) (.slice t x (some y) none none) ty pos af none) (.fro k (rows.drop j)) := qi fun I ρ h => by
 have h2 := h.ev x
 rw [hx] at h2
 obtain ⟨p, n, c, ex, hn, hnc, hnil, hr⟩ := h2
 have h3 := evI h hy
 subst hi
 refine ⟨.slice (if c = j then p else p.map (·.add (j * k))) (n - j) (c - j), ⟨_, _, _, Z, by rw [List.length_drop, hn], by omega, fun hp=>?_, hr.drop hn hnc⟩, fun w=>?_⟩
 ·split at hp
  ·omega
  ·cases p with
   | none => have := hnil rfl; omega
   | some q => cases hp
 ·have hjn : j ≤ n := by omega
  simp [execOp, Instr.sliceAt, Instr.slice, Instr.sliceBounds, Instr.sliceBound, asIntOf, Sem.run_bind, run_underlying ht, hs, ex, h3, hjn]
theorem Gv.cutLoM {α : Type} {enc : α → List AV} {xs : List α} {k j : Nat} {a : Int} (ht : P.underlying t = some (.slice e)) (hs : ∀ w, (sizeOf e).run P w = .ok k w) (hx : aev env x = .fro k (xs.map enc)) (hy : aev env y = .int .i64 a) (hi : a = (j : Int)) (hj : j ≤ xs.length) :
  Gv P env O (Oper.mk (some d) (.slice t x (some y) none none) ty pos af none) (.fro k ((xs.drop j).map enc)) := by
 have := Gv.cutLo (d := d) (ty := ty) (pos := pos) (af := af) (O := O) ht hs hx hy hi (by rwa [qt])
 rwa [← List.map_drop] at this
end
end Go.Proofs.YtpojdepccecpgaaGreatDoor
namespace Go.Proofs.YtpojdepccecpgaaGreatDoor
open Go.Proofs.Tryz
def mget (s : ByteArray) : List (ByteArray × Int) → Option Int
 | [] => none
 | (k, v) :: es => if s = k then some v else mget s es
def mset (s : ByteArray) (v : Int) : List (ByteArray × Int) → List (ByteArray × Int)
 | [] => [(s, v)]
 | (k, u) :: es => if s = k then (k, v) :: es else (k, u) :: mset s v es
def encME (p : ByteArray × Int) : Value × Value := (.string p.1, .int .i64 p.2)
def mapP (b : Nat) (es : List (ByteArray × Int)) (L : List (Nat × Obj)) : Prop := ∃ (arr : Array MapEntry) (clock : Nat), L = [(b, .map arr clock)] ∧ arr.toList.map (fun e => (e.key, e.val)) = es.map encME
def mapO (b : Nat) (es : List (ByteArray × Int)) : AObj := .heap (mapP b es)
def mref (b : Nat) : AV := .raw (.map (some b))
theorem findNow_none {s : ByteArray} : ∀ {l : List MapEntry} {es : List (ByteArray × Int)} {i : Nat}, l.map (fun e => (e.key, e.val)) = es.map encME → mget s es = none → Instr.findNow .string (.string s) l i = some none
 | [], [], _, _, _ => rfl
 | [], _ :: _, _, h, _ => by cases h
 | _ :: _, [], _, h, _ => by cases h
 | e :: l, (k, v) :: es, i, h, hg => by
  simp only [List.map_cons, List.cons.injEq, encME, Prod.mk.injEq] at h
  obtain ⟨⟨h1, _⟩, h2⟩ := h
  simp only [mget] at hg
  split at hg
  ·cases hg
  ·rename_i hne
   unfold Instr.findNow
   rw [h1]
   have : (s == k) = false := Bool.eq_false_iff.2 fun h => hne ((MapKept.bytes_beq s k).1 h)
   simp only [Instr.sameNow, this]
   exact findNow_none h2 hg
theorem findNow_some {s : ByteArray} {u : Int} : ∀ {l : List MapEntry} {es : List (ByteArray × Int)} {i : Nat}, l.map (fun e => (e.key, e.val)) = es.map encME → mget s es = some u →
  ∃ j, Instr.findNow .string (.string s) l i = some (some (i + j, .int .i64 u)) ∧ (∃ e, l[j]? = some e ∧ e.key = .string s) ∧ ∀ v, es.set j (s, v) = mset s v es
 | [], [], _, _, hg => by cases hg
 | [], _ :: _, _, h, _ => by cases h
 | _ :: _, [], _, h, _ => by cases h
 | e :: l, (k, v) :: es, i, h, hg => by
  simp only [List.map_cons, List.cons.injEq, encME, Prod.mk.injEq] at h
  obtain ⟨⟨h1, h3⟩, h2⟩ := h
  simp only [mget] at hg
  unfold Instr.findNow
  rw [h1]
  split at hg
  ·rename_i heq
   subst heq
   cases hg
   refine ⟨0, ?_, ⟨e, Z, h1⟩, fun v=>?_⟩
   ·have hss : (s == s) = true := (MapKept.bytes_beq s s).2 rfl
    simp only [Instr.sameNow, hss]
    rw [h3]; rfl
   ·simp [mset]
  ·rename_i hne
   have hb : (s == k) = false := Bool.eq_false_iff.2 fun h => hne ((MapKept.bytes_beq s k).1 h)
   obtain ⟨j, g1, g2, g3⟩ := findNow_some (i := i + 1) h2 hg
   refine ⟨j + 1, ?_, by simpa using g2, fun v=>?_⟩
   ·simp only [Instr.sameNow, hb, g1]
    congr 3; omega
   ·simp [mset, hne, g3]
section
variable {E : World} {P : Program} {n : Nat} {ops : Array Oper} {K : AEnv → OL → Prop} {env : AEnv} {O O' : OL} {rest : List Oper}
variable {d ty : Nat} {pos : String} {af : Array Edge} {t e kt : TypeId} {x y z : Operand} {b i : Nat} {es : List (ByteArray × Int)}
theorem AOps.makeMap (k : ∀ b, AOps P E ops K rest (aupd env d (mref b)) ((0, mapO b []) :: O)) : AOps P E ops K (Oper.mk (some d) (.makeMap t none) ty pos af none :: rest) env O := fun I F ρ w h1 ⟨ht, L, hL, hS⟩ => by
 refine qk Z ?_
 unfold OpW
 have : (execOp (Go.Proofs.YtpojdepccecpgaaGreatDoor.ev ρ) (Oper.mk (some d) (.makeMap t none) ty pos af none)).run P w = .ok (.value (.map (some w.heap.size))) (w.alloc (.map #[] 0)) := by
  simp only [execOp, Option.map_none]
  rw [Sem.run_bind, run_makeMap_plain]; rfl
 rw [this]
 exact k w.heap.size I F _ _ (h1.upd d rfl) ⟨ht, (w.heap.size, .map #[] 0) :: L, ⟨[_], L, rfl, ⟨#[], 0, rfl, rfl⟩, hL⟩, hS.alloc _⟩
theorem map_in {I : G} {L : List (Nat × Obj)} (hO : Has O i (mapO b es)) (hL : RepOs I O L) : ∃ (arr : Array MapEntry) (clock : Nat), (b, Obj.map arr clock) ∈ L ∧ arr.toList.map (fun e => (e.key, e.val)) = es.map encME := by
 obtain ⟨O', hO⟩ := hO
 obtain ⟨A, B, hp, ⟨arr, clock, rfl, h2⟩, _⟩ := hO.rep hL
 exact ⟨arr, clock, hp.mem_iff.2 (by simp), h2⟩
theorem AOps.mapSet {s : ByteArray} {v : Int} (ht : P.underlying t = some (.map kt e)) (hk : P.underlying kt = some .string) (hx : aev env x = mref b) (hy : aev env y = .str s) (hz : aev env z = .int .i64 v) (hO : Put O i (mapO b es) (mapO b (mset s v es)) O')
  (k : AOps P E ops K rest env O') : AOps P E ops K (Oper.mk none (.mapUpdate t x y z) ty pos af none :: rest) env O := fun I F ρ w h1 ⟨htop, L, hL, hS⟩ => by
 have hx := evRaw h1 hx
 have hy := evT h1 hy
 have hz := evI h1 hz
 obtain ⟨A, B, hp, ⟨arr, clock, rfl, he⟩, hback⟩ := hO.rep hL
 have hS2 : SL I.k ((b, .map arr clock) :: (B ++ F)) E w := hS.perm ((hp.append_right F).symm)
 have hb := hS2.own _ (.head _)
 simp only at hb
 have hc : (Instr.checkKey false 10000 kt (.string s)).run P w = .ok () w := MapKept.run_checkKey (k := .string s) hk (by simp [MapKept.IsKey]) false 9999
 have fin : ∀ (arr' : Array MapEntry) (clock' : Nat), arr'.toList.map (fun e => (e.key, e.val)) = (mset s v es).map encME →
   (execOp (Go.Proofs.YtpojdepccecpgaaGreatDoor.ev ρ) (Oper.mk none (.mapUpdate t x y z) ty pos af none)).run P w = .ok .skip { w with heap := w.heap.setIfInBounds b (.map arr' clock') } → Ops P ops (postK I F E K) (Oper.mk none (.mapUpdate t x y z) ty pos af none :: rest) ρ w := fun arr' clock' he' hrun => by
  refine qk Z ?_
  unfold OpW
  rw [hrun]
  obtain ⟨L', h7, h8⟩ := hback (G.le.refl I) (A' := [(b, .map arr' clock')]) ⟨arr', clock', rfl, he'⟩
  have hh := MapKept.heap_set (o' := .map arr' clock') hb
  have hS3 : SL I.k ((b, .map arr' clock') :: (B ++ F)) E { w with heap := w.heap.setIfInBounds b (.map arr' clock') } := hS2.turn rfl rfl rfl hh.1 hh.2
  exact k I F ρ _ h1 ⟨htop, L', h7, hS3.perm (h8.append_right F)⟩
 cases hg : mget s es with
 | none =>
  have hf := findNow_none (i := 0) he hg
  refine fin (arr.push { key := .string s, val := .int .i64 v, born := clock }) (clock + 1) ?_ ?_
  ·have hset : ∀ es : List (ByteArray × Int), mget s es = none → mset s v es = es ++ [(s, v)] := fun es => by
    induction es with
    | nil => intro _; rfl
    | cons x es ih =>
     obtain ⟨k, u⟩ := x
     intro hg
     simp only [mget] at hg
     split at hg
     ·cases hg
     ·rename_i hne; simp [mset, hne, ih hg]
   rw [hset es hg]
   simp [he, encME]
  ·simp [execOp, hx, hy, hz, Instr.mapUpdate, run_underlying ht, MapKept.run_getObj_map hb, hc, MapKept.run_findKey hk hf, MapKept.run_setObj_map _ hb, Result.andThen]
 | some u =>
  obtain ⟨j, hf, ⟨e0, hj, hkey⟩, hset⟩ := findNow_some (i := 0) he hg
  rw [Nat.zero_add] at hf
  have hj' : arr[j]? = some e0 := by rw [← Array.getElem?_toList]; exact hj
  refine fin (arr.modify j fun e => { e with key := .string s, val := .int .i64 v }) clock ?_ ?_
  ·rw [← hset v, List.map_set]
   have hjl : j < arr.toList.length := (List.getElem?_eq_some_iff.1 hj).1
   have : (arr.modify j fun e => { e with key := .string s, val := .int .i64 v }).toList = arr.toList.set j { e0 with key := .string s, val := .int .i64 v } := by
    apply List.ext_getElem?
    intro q
    rw [Array.getElem?_toList, Array.getElem?_modify]
    by_cases hq : j = q
    ·subst hq
     rw [if_pos rfl, hj', List.getElem?_set_self hjl]; rfl
    ·rw [if_neg hq, List.getElem?_set_ne hq, Array.getElem?_toList]
   rw [this, List.map_set, he]; rfl
  ·have hkeep : (Instr.keyThatStays (.string s) (.string s)).run P w = .ok (.string s) w := by
    have hss : (s == s) = true := (MapKept.bytes_beq s s).2 rfl
    simp [Instr.keyThatStays, Instr.sameBits, hss]
   simp [execOp, hx, hy, hz, Instr.mapUpdate, run_underlying ht, MapKept.run_getObj_map hb, hc, MapKept.run_findKey hk hf, MapKept.run_setObj_map _ hb, Result.andThen, hj', hkey, hkeep]
end
end Go.Proofs.YtpojdepccecpgaaGreatDoor
namespace Go.Proofs.YtpojdepccecpgaaGreatDoor
open Go.Proofs.Tryz
section
variable {E : World} {P : Program} {n : Nat} {ops : Array Oper} {K : AEnv → OL → Prop} {env : AEnv} {O O' : OL} {rest : List Oper} {R : AV → OL → Prop}
variable {d ty : Nat} {pos : String} {af : Array Edge} {t e : TypeId} {x y : Operand}
theorem afin.c1t {t u T i : Nat} {T' : TypeId} {cs : List AV} {n : Nat} {y : AV} (hv : env t = .po i 0) (hu : env u = y) (hO : Has O i (.cells T' cs)) (ha : ∀ w, (isAgg T).run P w = .ok true w) (hs : ∀ w, (sizeOf T).run P w = .ok n w) (hn : cs.length = n) (h : R (.tup [.agg cs, y]) O) :
  afin P E #[.cell t T, .tmp u] R .ret env O := afin.of (x := .tup [.agg cs, y]) (fun I F ρ w h1 h2 => by
 obtain ⟨L, hL, hS⟩ := h2.2
 have h3 := h1 t
 rw [hv] at h3
 obtain ⟨b, c, e1, e⟩ := h3
 obtain ⟨b', c', vs, e2, h4, hm⟩ := hO.cells hL
 rw [e1] at e2; cases e2
 have hl := run_loadVar_agg (P := P) (w := w) (b := b) (off := 0) ha (cs := vs) (by rw [h4.length, hn]; exact hs) (fun j v hj => by
  rw [Nat.zero_add]
  exact hS.at_ (.inr ⟨_, _, _, List.mem_append_left _ hm, by rw [List.getElem?_toArray]; exact hj⟩))
 exact ⟨.tuple #[.agg vs.toArray, ρ u], by simp [resE, e, asAddr, hl], ⟨[_, _], rfl, _, _, rfl, ⟨vs, rfl, h4⟩, _, _, rfl, hu ▸ h1 u, rfl⟩⟩) h
end
end Go.Proofs.YtpojdepccecpgaaGreatDoor
namespace Go.Proofs.YtpojdepccecpgaaGreatDoor
open Go.Proofs.Tryz
section
variable {E : World} {P : Program} {env : AEnv} {O : OL} {d ty : Nat} {pos : String} {af : Array Edge} {x : Operand} {t u : TypeId}
end
end Go.Proofs.YtpojdepccecpgaaGreatDoor
namespace Go.Proofs.YtpojdepccecpgaaGreatDoor
open Go.Proofs.Tryz
section
variable {E : World} {P : Program} {ops : Array Oper} {K : AEnv → OL → Prop} {env : AEnv} {O O' O'' : OL} {rest : List Oper} {n : Nat}
variable {d ty : Nat} {pos : String} {af : Array Edge} {x y z : Operand} {t u e : TypeId}
theorem drop_last {A row : List AV} {j : Nat} {c : AV} (h : row[j]? = some c) : (A ++ row).drop (A.length + j) = c :: row.drop (j + 1) := by
 obtain ⟨hj, rfl⟩ := List.getElem?_eq_some_iff.1 h
 rw [List.drop_append, List.drop_eq_nil_of_le (by omega), Nat.add_sub_cancel_left, List.nil_append]
 exact List.drop_eq_getElem_cons hj
theorem Gv.loadL {i off j k : Nat} {T : TypeId} {c : AV} {A row : List AV} (ha : ∀ w, (isAgg t).run P w = .ok false w) (hx : aev env x = .po i off) (hoff : off = A.length + j) (hO : Has O i (.grow k T (A ++ row))) (hv : row[j]? = some c) :
  Gv P env O (Oper.mk (some d) (.load t x) ty pos af none) c := Gv.load1G ha hx hO (by subst hoff; exact drop_last hv)
theorem AOps.storeL {i off j m k : Nat} {T : TypeId} {v : AV} {A row l new : List AV} (hs : ∀ w, (sizeOf t).run P w = .ok m w) (hx : aev env x = .po i off) (hoff : off = A.length + j) (hy : aev env y = v) (hv : v.sto = true) (hl : v.cs = l) (hl1 : l.all AV.cell = true) (hn : l.length = m)
  (hO : Put O i (.grow k T (A ++ row)) (.grow k T (A ++ new)) O') (hb : Nat.ble (j + m) row.length = true) (hm : Nat.ble 1 m = true) (hnew : row.take j ++ l ++ row.drop (j + m) = new) (kk : AOps P E ops K rest env O') : AOps P E ops K (Oper.mk none (.store t x y) ty pos af none :: rest) env O :=
 AOps.storeG hs hx hy hv hl hl1 hn hO (by have := Nat.le_of_ble_eq_true hb; rw [qs]; omega) (Nat.le_of_ble_eq_true hm) (by
  have := Nat.le_of_ble_eq_true hb
  subst hoff hnew
  rw [List.take_append, List.take_of_length_le (by omega : A.length ≤ A.length + j), Nat.add_sub_cancel_left, List.drop_append, List.drop_eq_nil_of_le (by omega : A.length ≤ A.length + j + m), Nat.add_assoc, Nat.add_sub_cancel_left]
  simp) kk
theorem Gv.idxOL {i n k j r : Nat} {a : Int} {T : TypeId} {cs : List AV} (ht : P.underlying t = some (.slice e)) (hs : ∀ w, (sizeOf e).run P w = .ok k w) (hx : aev env x = .own i n) (hy : aev env y = .int .i64 a) (hi : a = (j : Int)) (hO : Has O i (.grow k T cs)) (hne : cs ≠ []) (hj : j < n) (hr : j * k = r) :
  Gv P env O (Oper.mk (some d) (.indexAddr t x y) ty pos af none) (.po i r) := hr ▸ Gv.idxO ht hs hx hy hi hO hne hj
end
section
variable {P : Program} {E : World} {l : List Oper} {W : Nat → Bool} {fuel : Nat} {listed : Array Bool} {d ty : Nat} {op : Op} {pos : String} {af : Array Edge}
end
theorem GStep.knowP {E : World} {env : AEnv} {O O' : OL} {t i : Nat} {T : TypeId} {cs : List AV} (hv : env t = .po i 0) (hO : Pick O i (.cells T cs) O') : GStep E env O (aupd env t (.pf cs)) O' := fun I F ρ w h1 ⟨ht, L, hL, hS⟩ => by
 obtain ⟨A, B, hp, ⟨b, c, vs, e1, hvs, hvc, rfl⟩, hB⟩ := hO.rep hL
 simp only at e1
 have hS2 : SL I.k ((b, .cells vs.toArray T (0, 0)) :: (B ++ F)) E w := hS.perm ((hp.append_right F).symm)
 obtain ⟨hl, hS3⟩ := SL.freeze hS2
 let J : G := ⟨I.k.put b (.cells vs.toArray T (0, 0)), I.h⟩
 have hle : I.le J := ⟨hl, fun _ _ h => h⟩
 refine ⟨J, hle, fun s=>?_, ht, B, hB.mono hle, hS3⟩
 unfold aupd
 cases hb : Nat.beq s t with
 | false => exact RepV.mono hle _ _ (h1 s)
 | true =>
  have : s = t := Nat.eq_of_beq_eq_true hb
  subst this
  have h2 := h1 s
  rw [hv] at h2
  obtain ⟨b2, c2, e2, e3⟩ := h2
  rw [e1] at e2
  simp only [Option.some.injEq, Prod.mk.injEq] at e2
  obtain ⟨rfl, rfl⟩ := e2
  exact ⟨b, 0, vs, e3, RepL.mono hle _ _ hvs, fun j u hj => ⟨_, _, _, Ghost.put_same _ _ _, by rw [Nat.zero_add, List.getElem?_toArray]; exact hj⟩⟩
end Go.Proofs.YtpojdepccecpgaaGreatDoor
namespace Go.Proofs.YtpojdepccecpgaaGreatDoor
open Go.Proofs.Tryz
section
variable {E : World} {P : Program} {ops : Array Oper} {K : AEnv → OL → Prop} {env : AEnv} {O O' : OL} {rest : List Oper}
variable {d ty : Nat} {pos : String} {af : Array Edge} {x y z : Operand} {t u e : TypeId}
end
end Go.Proofs.YtpojdepccecpgaaGreatDoor
namespace Go.Proofs.YtpojdepccecpgaaGreatDoor
open Go.Proofs.Tryz
section
variable {P : Program} {env : AEnv} {O : OL}
variable {d ty : Nat} {pos : String} {af : Array Edge} {x y : Operand}
theorem Gv.minI {ts : Array TypeId} {k : IntKind} {a b : Int} (hx : aev env x = .int k a) (hy : aev env y = .int k b) : Gv P env O (Oper.mk (some d) (.call { callee := .builtin .min, args := #[x, y], argTypes := ts }) ty pos af none) (.int k (if b < a then b else a)) := qi fun I ρ h => ⟨_, rfl, fun w => by
 simp [execOp, resolve, evI h hx, evI h hy, invoke, builtin, Builtin.min_, Builtin.min2, Result.andThen]⟩
end
end Go.Proofs.YtpojdepccecpgaaGreatDoor
namespace Go.Proofs.YtpojdepccecpgaaGreatDoor
open Go.Proofs.Tryz
open Go.Lib
section
variable {P : Program} {ops : Array Oper} {K : Env → World → Prop} {ρ : Env} {w : World} {rest : List Oper}
variable {d ty : Nat} {pos : String} {af : Array Edge} {x y z : Operand} {t u e : TypeId}
variable {I : Ghost} {O A : List (Nat × Obj)} {E : World}
theorem strCells_cell (s : ByteArray) : ∀ v ∈ strCells s, v.oneCell' = true := by
 intro v hv
 unfold strCells at hv
 obtain ⟨_, _, rfl⟩ := List.mem_map.1 hv; rfl
theorem run_appendT_SL {i : TypeInfo} {n cap : Nat} {a : Option Addr} {cs : List Value} (ht : P.underlying t = some (.slice e)) (hu : P.underlying u = some .string) (hi : P.info? e = some i) (hz : i.zero = some (.int .u8 0)) (hs1 : i.size = 1) (hby : i.bytes = 1)
  (hS : SL I (A ++ O) E w) (hA : OwnS 1 e a n cap cs A) (s : ByteArray) (hb : n + s.size ≤ 140737488355328) :
  ∃ a' cap' A' w', (Builtin.append_ #[t, u] ty #[.slice a n cap, .string s]).run P w = .ok (.slice a' (n + s.size) cap') w' ∧ OwnS 1 e a' (n + s.size) cap' (cs ++ strCells s) A' ∧ SL I (A' ++ O) E w' := by
 obtain ⟨hcl, hnc, hA⟩ := hA
 rw [Nat.mul_one] at hcl
 have hnl := strCells_length s
 rcases hA with ⟨rfl, rfl, rfl⟩ | ⟨b, junk, rfl, rfl, hjl⟩
 ·have hn0 : n = 0 := by omega
  subst hn0
  have hcs : cs = [] := List.eq_nil_of_length_eq_zero (by simpa using hcl)
  subst hcs
  by_cases hm : s.size = 0
  ·have hn : strCells s = [] := List.eq_nil_of_length_eq_zero (by rw [hnl]; exact hm)
   refine ⟨none, 0, [], w, ?_, by rw [hm, hn]; exact OwnS.nil _ _, hS⟩
   have hf := run_firstCells_string (P := P) w 1 s
   rw [hm] at hf
   simp [Builtin.append_, run_underlying ht, run_underlying hu, sizeOf, typeInfo, hi, hs1, Builtin.lenOf, hm, hf]
  ·have hr := run_append_nil_string (P := P) w t u ty e i (.int .u8 0) ht hu hi hz s (by omega) (by omega) (by rw [hby]; omega)
   have e1 : (s.data.map fun b => Value.int .u8 b.toNat) = (strCells s).toArray := by
    apply Array.ext'
    simp [strCells]
   rw [e1] at hr
   refine ⟨_, _, [(w.heap.size, .cells ((strCells s).toArray ++ Builtin.zeroCells (Value.int .u8 0).cells (grownCap w s.size 0 e - s.size)) e (0, 0))], _, by rw [Nat.zero_add]; exact hr, ⟨by simp [hnl], by rw [Nat.zero_add]; exact grownCap_ge _ _ _ _, .inr ⟨_, (Builtin.zeroCells (Value.int .u8 0).cells (grownCap w s.size 0 e - s.size)).toList, rfl, ?_, ?_⟩⟩, (hS.drew).alloc _⟩
   ·congr 2; congr 1; simp
   ·have := grownCap_ge w s.size 0 e
    have hz1 : (Value.int IntKind.u8 0).cells.size = 1 := rfl
    simp only [List.nil_append, qs, hnl, Array.length_toList, size_zeroCells, hz1]
    omega
 ·have hown := hS.own (b, .cells (cs ++ junk).toArray e (0, 0)) (by simp)
  simp only at hown
  have hjl' : cs.length + junk.length = cap := by simpa using hjl
  by_cases hroom : n + s.size ≤ cap
  ·have hrun := run_append_room_string (P := P) w t u ty e i ht hu hi hs1 b n cap (cs ++ junk).toArray hown s hroom (by simp; omega)
   have hshape : (List.take n (cs ++ junk).toArray.toList ++ strCells s ++ List.drop (n + s.size) (cs ++ junk).toArray.toList) = (cs ++ strCells s) ++ junk.drop s.size := by
    have e1 : n = cs.length := hcl.symm
    simp only [e1]
    rw [List.take_left, List.drop_append, List.drop_eq_nil_of_le (by omega : cs.length ≤ cs.length + s.size)]
    simp
   rw [hshape] at hrun
   refine ⟨_, _, [(b, .cells ((cs ++ strCells s) ++ junk.drop s.size).toArray e (0, 0))], _, hrun, ⟨by rw [qs, hcl, hnl, Nat.mul_one], hroom, .inr ⟨b, _, rfl, rfl, ?_⟩⟩, ?_⟩
   ·simp only [qs, List.length_drop]; omega
   ·refine SL.turn (w := w) hS rfl rfl rfl ?_ ?_
    ·simp [World.setRow, Array.getElem?_modify, hown]
    ·intro k hk
     simp only [World.setRow, Array.getElem?_modify]
     rw [if_neg (by omega)]
  ·have hrun := run_append_grow_string (P := P) w t u ty e i (.int .u8 0) ht hu hi hz ⟨b, 0, none⟩ n cap cs (by rw [hs1, Nat.mul_one]; exact hcl) (fun j v hj => by
    rw [addr_add, Nat.zero_add]
    refine hS.at_ (.inr ⟨_, _, _, List.mem_append_left _ (List.mem_singleton.2 Z), ?_⟩)
    have := (List.getElem?_eq_some_iff.1 hj).1
    rw [List.getElem?_toArray, List.getElem?_append_left this]; exact hj) s (by omega) (by omega) (by rw [hby]; exact growslice_fits (by omega) (by omega))
   refine ⟨_, _, [(w.heap.size, .cells (cs.toArray ++ (strCells s).toArray ++ Builtin.zeroCells (Value.int .u8 0).cells (grownCap w (n + s.size) cap e - (n + s.size))) e (0, 0))], _, hrun, ⟨by rw [qs, hcl, hnl, Nat.mul_one], grownCap_ge _ _ _ _, .inr ⟨_, (Builtin.zeroCells (Value.int .u8 0).cells (grownCap w (n + s.size) cap e - (n + s.size))).toList, rfl, ?_, ?_⟩⟩, ?_⟩
   ·congr 2; congr 1; simp
   ·have := grownCap_ge w (n + s.size) cap e
    have hz1 : (Value.int IntKind.u8 0).cells.size = 1 := rfl
    simp only [qs, hcl, hnl, Array.length_toList, size_zeroCells, hz1]
    omega
   ·have h2 := (hS.drew).alloc (.cells (cs.toArray ++ (strCells s).toArray ++ Builtin.zeroCells (Value.int .u8 0).cells (grownCap w (n + s.size) cap e - (n + s.size))) e (0, 0))
    refine h2.sub ?_
    exact List.Sublist.cons_cons _ (List.sublist_cons_self _ _)
end
def strAV (s : ByteArray) : List AV := s.data.toList.map fun b => .int .u8 b.toNat
theorem strAV_rep (I : G) (s : ByteArray) : RepL I (strAV s) (strCells s) := by
 unfold strAV strCells
 induction s.data.toList with
 | nil => rfl
 | cons b l ih => exact ⟨_, _, rfl, rfl, ih⟩
theorem strAV_len (s : ByteArray) : (strAV s).length = s.size := by
 have := (strAV_rep ⟨fun _ => none, fun _ => none⟩ s).length
 rw [← this, strCells_length]
theorem strAV_app (s u : ByteArray) : strAV (s ++ u) = strAV s ++ strAV u := by unfold strAV; rw [ByteArray.data_append]; simp
theorem strAV_un {I : G} {s : ByteArray} {vs : List Value} (h : RepL I (strAV s) vs) : vs = strCells s := by
 unfold strAV at h; unfold strCells
 generalize s.data.toList = l at h
 induction l generalizing vs with
 | nil => exact h
 | cons b l ih =>
  obtain ⟨v, us, rfl, h1, h2⟩ := h
  have h1 : v = .int .u8 b.toNat := h1
  rw [h1, ih h2]; rfl
section
variable {E : World} {P : Program} {ops : Array Oper} {K : AEnv → OL → Prop} {env : AEnv} {O O' : OL} {rest : List Oper}
variable {d ty : Nat} {pos : String} {af : Array Edge} {x y z : Operand} {t u e : TypeId}
theorem AOps.appendT {ti : TypeInfo} {n i : Nat} {cs : List AV} {s : ByteArray} {f : Nat → OL} (ht : P.underlying t = some (.slice e)) (hu : P.underlying u = some .string) (hi : P.info? e = some ti) (hz : ti.zero = some (.int .u8 0)) (hs1 : ti.size = 1) (hby : ti.bytes = 1)
  (hx : aev env x = .own i n) (hy : aev env y = .str s) (hO : ∀ j, Swp O i (.grow 1 e cs) j (.grow 1 e (cs ++ strAV s)) (f j)) (hn : cs.length = n) (hb : n + s.size ≤ 140737488355328)
  (kk : ∀ j, AOps P E ops K rest (aupd env d (.own j (n + s.size))) (f j)) :
  AOps P E ops K (Oper.mk (some d) (.call { callee := .builtin .append, args := #[x, y], argTypes := #[t, u] }) ty pos af none :: rest) env O := fun I F ρ w h1 h2 => by
 obtain ⟨htop, L, hL, hS⟩ := id h2
 have h3 := h1.ev x
 rw [hx] at h3
 obtain ⟨b, cap, e1, ex⟩ := h3
 have ey := evT h1 hy
 obtain ⟨j, hj⟩ := h2.name
 obtain ⟨A, B, hp, ⟨b', cap', n', us, e2, hus, huc, hown⟩, hback⟩ := (hO j).rep hL
 simp only at e2
 rw [e1] at e2
 simp only [Option.some.injEq, Prod.mk.injEq] at e2
 obtain ⟨rfl, rfl⟩ := e2
 have hnn : n' = n := by
  have h5 := hown.1
  have h6 := hus.length
  omega
 subst hnn
 have hS2 : SL I.k (A ++ (B ++ F)) E w := hS.perm (by rw [← qo]; exact (hp.append_right F).symm)
 obtain ⟨a', c', A', w', hrun, h5, h6⟩ := run_appendT_SL (ty := ty) ht hu hi hz hs1 hby hS2 hown s hb
 have hb' : ∃ b'', a' = adr b'' := by
  rcases h5.2.2 with ⟨e, _⟩ | ⟨b'', junk, e, _⟩
  ·exact ⟨none, e⟩
  ·exact ⟨some b'', e⟩
 obtain ⟨b'', rfl⟩ := hb'
 obtain ⟨J, ek, hle, e3, htop'⟩ := hj (b'', c')
 obtain ⟨L', h8, h9⟩ := hback hle (A' := A') ⟨b'', c', _, us ++ strCells s, e3, RepL.mono hle _ _ (hus.append (strAV_rep I s)), (by
  intro v hv
  rcases List.mem_append.1 hv with hv | hv
  ·exact huc v hv
  ·exact strCells_cell s v hv), h5⟩
 refine qk Z ?_
 unfold OpW
 have : (execOp (Go.Proofs.YtpojdepccecpgaaGreatDoor.ev ρ) (Oper.mk (some d) (.call { callee := .builtin .append, args := #[x, y], argTypes := #[t, u] }) ty pos af none)).run P w = .ok (.value (.slice (adr b'') (n' + s.size) c')) w' := by
  simp [execOp, resolve, ex, ey, invoke, builtin, hrun]
 rw [this]
 exact yx (fun _ _ => qb hle) _ _ _ (kk j J F _ _ ((h1.mono hle).upd d ⟨b'', c', e3, rfl⟩) ⟨htop', L', h8, by rw [ek]; exact h6.perm (by rw [← qo]; exact h9.append_right F)⟩)
theorem Gv.eqlNilR (hp : P.underlying t = some (.pointer (P.pointee t))) (hx : aev env x = .raw (.pointer none)) : Gv P env O (Oper.mk (some d) (.binOp .eql t x (.const (.pointer none)) u) ty pos af none) (.bool true) := qi fun I ρ h => by
 have h1 := evRaw h hx
 have e2 : Go.Proofs.YtpojdepccecpgaaGreatDoor.ev ρ (.const (.pointer none)) = .pointer none := rfl
 exact ⟨_, rfl, fun w => by simp only [execOp, h1, e2]; simp [eqGuard, run_eql_pointer_nil w t none hp]⟩
theorem Gv.eqlNilO {i off : Nat} (hp : P.underlying t = some (.pointer (P.pointee t))) (hx : aev env x = .po i off) : Gv P env O (Oper.mk (some d) (.binOp .eql t x (.const (.pointer none)) u) ty pos af none) (.bool false) := qi fun I ρ h => by
 have h1 := h.ev x
 rw [hx] at h1
 obtain ⟨b, c, _, h1⟩ := h1
 have e2 : Go.Proofs.YtpojdepccecpgaaGreatDoor.ev ρ (.const (.pointer none)) = .pointer none := rfl
 exact ⟨_, rfl, fun w => by simp only [execOp, h1, e2]; simp [eqGuard, run_eql_pointer_nil w t _ hp]⟩
theorem Gv.neqPO {i off : Nat} {te : TypeId} {j : TypeInfo} (hp : P.underlying t = some (.pointer te)) (hte : P.info? te = some j) (hx : aev env x = .po i off) (hy : aev env y = .po i off) : Gv P env O (Oper.mk (some d) (.binOp .neq t x y u) ty pos af none) (.bool false) := qi fun I ρ h => by
 have h1 := h.ev x
 have h2 := h.ev y
 rw [hx] at h1
 rw [hy] at h2
 obtain ⟨b, c, e1, h1⟩ := h1
 obtain ⟨b', c', e2, h2⟩ := h2
 rw [e1] at e2; cases e2
 exact ⟨_, rfl, fun w => by simp only [execOp, h1, h2]; simp [eqGuard, run_neq_ptr_same w ⟨b, off, none⟩ hp hte]⟩
theorem shape_of {w : World} {b : Nat} {c : Array Value} {T : TypeId} {f : Nat × Nat} (h : w.heap[b]? = some (.cells c T f)) : w.shape? b = some (T, c.size) := by simp [World.shape?, h]
theorem Gv.toUnsafe {src dst te T : TypeId} {j : TypeInfo} {i off : Nat} {cs : List AV} (hs : P.underlying src = some (.pointer te)) (hd : P.underlying dst = some .unsafePointer) (ht : P.info? te = some j) (hj : j.size ≠ 0)
  (hx : aev env x = .po i off) (hO : Has O i (.cells T cs)) (hoff : off < cs.length) : Gv P env O (Oper.mk (some d) (.convert src dst x) ty pos af none) (.po i off) := fun I L E ρ h hL => by
 have h1 := h.ev x
 rw [hx] at h1
 obtain ⟨b, c, e1, h1⟩ := h1
 obtain ⟨b', c', vs, e2, h4, hm⟩ := hO.cells hL
 rw [e1] at e2; cases e2
 refine ⟨_, ⟨b, c, e1, Z⟩, fun w J L' hl hS hin => ?_⟩
 have hw := hS.own _ (hin _ hm)
 simp only [execOp, h1]
 rw [Sem.run_bind, run_to_unsafe w ⟨b, off, none⟩ hs hd ht hj (shape_of hw) (by have := h4.length; simp; omega)]; rfl
theorem Gv.fromUnsafe {src dst te T : TypeId} {j : TypeInfo} {i off : Nat} {cs : List AV} (hs : P.underlying src = some .unsafePointer) (hd : P.underlying dst = some (.pointer te)) (ht : P.info? te = some j)
  (hx : aev env x = .po i off) (hO : Has O i (.cells T cs)) (hlies : liesAt P P.depth T (cs.length / P.cellsOf T) off te 1 = true) : Gv P env O (Oper.mk (some d) (.convert src dst x) ty pos af none) (.po i off) := fun I L E ρ h hL => by
 have h1 := h.ev x
 rw [hx] at h1
 obtain ⟨b, c, e1, h1⟩ := h1
 obtain ⟨b', c', vs, e2, h4, hm⟩ := hO.cells hL
 rw [e1] at e2; cases e2
 refine ⟨_, ⟨b, c, e1, Z⟩, fun w J L' hl hS hin => ?_⟩
 have hw := hS.own _ (hin _ hm)
 have hsz : vs.toArray.size = cs.length := by have := h4.length; simpa using this
 have hsh := shape_of hw
 rw [hsz] at hsh
 simp only [execOp, h1]
 rw [Sem.run_bind, run_from_unsafe w ⟨b, off, none⟩ hs hd ht hsh hlies]; rfl
theorem Gv.noEscape {f : FuncId} {fn : Func} {v : AV} {tys : Array TypeId} (hf : P.funcs[f]? = some fn) (hname : (fn.name == "runtime.NumGoroutine") = false) (hb : fn.body.isNone = true) (hn : Extern.findNext fn = none) (he : Extern.find fn = some Extern.AbiNoEscape.same) (hx : aev env x = v) :
  Gv P env O (Oper.mk (some d) (.call { callee := .value (.func f), args := #[x], argTypes := tys }) ty pos af none) v := qi fun I ρ h => by
 refine ⟨Go.Proofs.YtpojdepccecpgaaGreatDoor.ev ρ x, hx ▸ h.ev x, fun w=>?_⟩
 have := run_callFunc_extern hf hname hb hn he #[Go.Proofs.YtpojdepccecpgaaGreatDoor.ev ρ x] w
 rw [run_noEscape] at this
 have e1 : Go.Proofs.YtpojdepccecpgaaGreatDoor.ev ρ (.func f) = .func (.func f) #[] #[] := rfl
 simp [execOp, resolve, e1, Deferred.ofValue, invoke, this, Result.andThen]
theorem SL.scrap {I : Ghost} {A : List (Nat × Obj)} {E w w' : World} {b : Nat} {o : Obj} (h : SL I ((b, o) :: A) E w) (h1 : w'.os = w.os) (h2 : w'.output = w.output) (h3 : w'.tape = w.tape) (h5 : ∀ k, k ≠ b → w'.heap[k]? = w.heap[k]?) : SL I A E w' := by
 have hn := h.nodup
 simp only [List.map_cons, List.nodup_cons] at hn
 refine ⟨h1.trans h.os, h2.trans h.output, h3.trans h.tape, ?_, ?_, hn.2, fun x hx => h.apart x (List.mem_cons_of_mem _ hx), h.base, h.flat, fun x hx => h.oflat x (List.mem_cons_of_mem _ hx)⟩
 ·intro k ok hk
  rw [h5 k (fun e=>?_)]
  ·exact h.pers k ok hk
  ·subst e; rw [h.apart (k, o) (by simp)] at hk; cases hk
 ·intro x hx
  rw [h5 x.1 (fun e => hn.1 (e ▸ List.mem_map.2 ⟨x, hx, rfl⟩))]
  exact h.own x (List.mem_cons_of_mem _ hx)
end
section
variable {E : World} {P : Program} {env : AEnv} {O : OL} {d ty : Nat} {pos : String} {af : Array Edge} {t e kt : TypeId} {x y : Operand} {b i : Nat} {es : List (ByteArray × Int)}
theorem Gv.lookup1S {s : ByteArray} (ht : P.underlying t = some (.map kt e)) (hk : P.underlying kt = some .string) (hz : ∀ w, (zeroValue e).run P w = .ok (.int .i64 0) w) (hx : aev env x = mref b) (hy : aev env y = .str s) (hO : Has O i (mapO b es)) :
  Gv P env O (Oper.mk (some d) (.lookup t x y false) ty pos af none) (.int .i64 ((mget s es).getD 0)) := fun I L E ρ h1 hL => by
 obtain ⟨arr, clock, hm, he⟩ := map_in hO hL
 have hx := evRaw h1 hx
 have hy := evT h1 hy
 refine ⟨.int .i64 ((mget s es).getD 0), Z, fun w J L' hl hS hin => ?_⟩
 have hb := hS.own _ (hin _ hm)
 simp only at hb
 have hc : (Instr.checkKey arr.isEmpty 10000 kt (.string s)).run P w = .ok () w := MapKept.run_checkKey (k := .string s) hk (by simp [MapKept.IsKey]) _ 9999
 cases hg : mget s es with
 | none =>
  have hf := findNow_none (i := 0) he hg
  simp [execOp, Instr.lookup, run_underlying ht, hx, hy, MapKept.run_getObj_map hb, hc, MapKept.run_findKey hk hf, hz, Result.andThen]
 | some u =>
  obtain ⟨j, hf, _⟩ := findNow_some (i := 0) he hg
  simp [execOp, Instr.lookup, run_underlying ht, hx, hy, MapKept.run_getObj_map hb, hc, MapKept.run_findKey hk hf, Result.andThen]
end
theorem mget_set (s v : ByteArray) (n : Int) : ∀ es : List (ByteArray × Int), mget s (mset v n es) = if s = v then some n else mget s es
 | [] => by simp only [mset, mget]
 | (k, u) :: es => by
  simp only [mset]
  split
  ·rename_i h; subst h; simp only [mget]; split <;> rfl
  ·rename_i h
   simp only [mget, mget_set s v n es]
   split
   ·rename_i h2; subst h2; rw [if_neg (fun e => h e.symm)]
   ·rfl
end Go.Proofs.YtpojdepccecpgaaGreatDoor
namespace Go.Proofs.YtpojdepccecpgaaGreatDoor
open Go.Proofs.Tryz
def cI (l : List Int) : List AV := l.map (AV.int .i64)
def cB (l : List Bool) : List AV := l.map AV.bool
theorem cI_len (l : List Int) : (cI l).length = l.length := by simp [cI]
theorem cB_len (l : List Bool) : (cB l).length = l.length := by simp [cB]
theorem cI_flat (l : List Int) : (l.map fun x => [AV.int .i64 x]).flatten = cI l := by
 induction l with
 | nil => rfl
 | cons x l ih => simp only [List.map_cons, List.flatten_cons, ih]; rfl
theorem cB_flat (l : List Bool) : (l.map fun x => [AV.bool x]).flatten = cB l := by
 induction l with
 | nil => rfl
 | cons x l ih => simp only [List.map_cons, List.flatten_cons, ih]; rfl
theorem cI_cell (l : List Int) : (cI l).all AV.cell = true := by
 unfold cI; rw [List.all_map]; exact List.all_eq_true.2 fun _ _ => rfl
theorem cB_cell (l : List Bool) : (cB l).all AV.cell = true := by
 unfold cB; rw [List.all_map]; exact List.all_eq_true.2 fun _ _ => rfl
theorem cI_app (l m : List Int) : cI l ++ cI m = cI (l ++ m) := by simp [cI]
theorem cI_set (l : List Int) (j : Nat) (v : Int) : (cI l).set j (.int .i64 v) = cI (l.set j v) := by unfold cI; rw [List.map_set]
theorem cB_set (l : List Bool) (j : Nat) (v : Bool) : (cB l).set j (.bool v) = cB (l.set j v) := by unfold cB; rw [List.map_set]
theorem cI_drop {l : List Int} {j : Nat} {v : Int} (h : l[j]? = some v) : (cI l).drop j = .int .i64 v :: (cI l).drop (j + 1) := by
 obtain ⟨hj, e⟩ := List.getElem?_eq_some_iff.1 h
 rw [List.drop_eq_getElem_cons (by rw [cI_len]; exact hj)]
 unfold cI
 rw [List.getElem_map, e]
theorem cB_drop {l : List Bool} {j : Nat} {v : Bool} (h : l[j]? = some v) : (cB l).drop j = .bool v :: (cB l).drop (j + 1) := by
 obtain ⟨hj, e⟩ := List.getElem?_eq_some_iff.1 h
 rw [List.drop_eq_getElem_cons (by rw [cB_len]; exact hj)]
 unfold cB
 rw [List.getElem_map, e]
theorem cI_rep (n : Nat) (v : Int) : List.replicate n (AV.int .i64 v) = cI (List.replicate n v) := by simp [cI]
theorem cB_rep (n : Nat) (v : Bool) : List.replicate n (AV.bool v) = cB (List.replicate n v) := by simp [cB]
theorem cI_rep_of (I : G) (l : List Int) : RepL I (cI l) (l.map (Value.int .i64)) := by
 unfold cI
 induction l with
 | nil => rfl
 | cons x l ih => exact ⟨_, _, rfl, rfl, ih⟩
theorem cI_un {I : G} : ∀ {l : List Int} {vs : List Value}, RepL I (cI l) vs → vs = l.map (Value.int .i64)
 | [], _, h => h
 | x :: l, _, ⟨v, us, e, h1, h2⟩ => by
  have h1 : v = .int .i64 x := h1
  rw [e, h1, cI_un h2]; rfl
section
variable {E : World} {P : Program} {ops : Array Oper} {K : AEnv → OL → Prop} {env : AEnv} {O O' O'' : OL} {rest : List Oper} {n : Nat}
variable {d ty : Nat} {pos : String} {af : Array Edge} {x y z : Operand} {t u e : TypeId}
theorem Gv.idxI {i n j : Nat} {a : Int} {T : TypeId} {cs : List AV} (ht : P.underlying t = some (.slice e)) (hs : ∀ w, (sizeOf e).run P w = .ok 1 w) (hx : aev env x = .own i n) (hy : aev env y = .int .i64 a) (hi : a = (j : Int)) (hO : Has O i (.grow 1 T cs)) (hn : cs.length = n) (hj : j < n) :
  Gv P env O (Oper.mk (some d) (.indexAddr t x y) ty pos af none) (.po i j) :=
 Gv.idxOL ht hs hx hy hi hO (fun e => by rw [e] at hn; simp at hn; omega) hj (Nat.mul_one j)
theorem Gv.loadI {i j : Nat} {T : TypeId} {l : List Int} {v : Int} (ha : ∀ w, (isAgg t).run P w = .ok false w) (hx : aev env x = .po i j) (hO : Has O i (.grow 1 T (cI l))) (hv : l[j]? = some v) :
  Gv P env O (Oper.mk (some d) (.load t x) ty pos af none) (.int .i64 v) := Gv.load1G ha hx hO (cI_drop hv)
theorem Gv.loadB {i j : Nat} {T : TypeId} {l : List Bool} {v : Bool} (ha : ∀ w, (isAgg t).run P w = .ok false w) (hx : aev env x = .po i j) (hO : Has O i (.grow 1 T (cB l))) (hv : l[j]? = some v) :
  Gv P env O (Oper.mk (some d) (.load t x) ty pos af none) (.bool v) := Gv.load1G ha hx hO (cB_drop hv)
theorem Put.cast {i k : Nat} {T : TypeId} {o : AObj} {cs ds : List AV} (h : Put O i o (.grow k T cs) O') (e : cs = ds) : Put O i o (.grow k T ds) O' := e ▸ h
theorem AOps.storeI {i j : Nat} {T : TypeId} {l : List Int} {v : Int} (hs : ∀ w, (sizeOf t).run P w = .ok 1 w) (hx : aev env x = .po i j) (hy : aev env y = .int .i64 v) (hO : Put O i (.grow 1 T (cI l)) (.grow 1 T (cI (l.set j v))) O') (hb : j < l.length)
  (kk : AOps P E ops K rest env O') : AOps P E ops K (Oper.mk none (.store t x y) ty pos af none :: rest) env O :=
 AOps.storeG1 (cs := cI l) hs hx hy rfl rfl rfl (hO.cast (cI_set l j v).symm) (by rw [cI_len]; exact hb) kk
theorem AOps.storeB {i j : Nat} {T : TypeId} {l : List Bool} {v : Bool} (hs : ∀ w, (sizeOf t).run P w = .ok 1 w) (hx : aev env x = .po i j) (hy : aev env y = .bool v) (hO : Put O i (.grow 1 T (cB l)) (.grow 1 T (cB (l.set j v))) O') (hb : j < l.length)
  (kk : AOps P E ops K rest env O') : AOps P E ops K (Oper.mk none (.store t x y) ty pos af none :: rest) env O :=
 AOps.storeG1 (cs := cB l) hs hx hy rfl rfl rfl (hO.cast (cB_set l j v).symm) (by rw [cB_len]; exact hb) kk
theorem AOps.makeI {i : TypeInfo} {zv : Value} {m : Nat} {k1 k2 : IntKind} {l l' : Int} (ht : P.underlying t = some (.slice e)) (hi : P.info? e = some i) (hz : i.zero = some zv) (hzc : zv.cells = #[.int .i64 0]) (hk : i.size = 1) (hx : aev env x = .int k1 l) (hy : aev env y = .int k2 l')
  (hl : l = (m : Int)) (hl' : l' = (m : Int)) (hb : (i.bytes : Int) * (m : Int) ≤ 281474976710656) (hm : m ≤ 281474976710656) (kk : ∀ j, AOps P E ops K rest (aupd env d (.own j m)) ((j, .grow 1 e (cI (List.replicate m 0))) :: O)) :
  AOps P E ops K (Oper.mk (some d) (.makeSlice t x y) ty pos af none :: rest) env O :=
 AOps.make1 ht hi hz hzc hk hx hy hl hl' hb hm rfl fun j => by rw [show lit (.int .i64 0) = AV.int .i64 0 from rfl, cI_rep]; exact kk j
theorem AOps.makeB {i : TypeInfo} {zv : Value} {m : Nat} {k1 k2 : IntKind} {l l' : Int} (ht : P.underlying t = some (.slice e)) (hi : P.info? e = some i) (hz : i.zero = some zv) (hzc : zv.cells = #[.bool false]) (hk : i.size = 1) (hx : aev env x = .int k1 l) (hy : aev env y = .int k2 l')
  (hl : l = (m : Int)) (hl' : l' = (m : Int)) (hb : (i.bytes : Int) * (m : Int) ≤ 281474976710656) (hm : m ≤ 281474976710656) (kk : ∀ j, AOps P E ops K rest (aupd env d (.own j m)) ((j, .grow 1 e (cB (List.replicate m false))) :: O)) :
  AOps P E ops K (Oper.mk (some d) (.makeSlice t x y) ty pos af none :: rest) env O :=
 AOps.make1 ht hi hz hzc hk hx hy hl hl' hb hm rfl fun j => by rw [show lit (.bool false) = AV.bool false from rfl, cB_rep]; exact kk j
theorem GStep.knowI {t i m : Nat} {T : TypeId} {l : List Int} (hv : env t = .own i m) (hO : Pick O i (.grow 1 T (cI l)) O') (hm : l.length = m) : GStep E env O (aupd env t (.fro 1 (l.map fun x => [.int .i64 x]))) O' :=
 GStep.know hv (by rw [cI_flat]; exact hO) (fun r hr => by obtain ⟨_, _, rfl⟩ := List.mem_map.1 hr; rfl) (by decide) (by rw [qt]; exact hm)
theorem GStep.knowB {t i m : Nat} {T : TypeId} {l : List Bool} (hv : env t = .own i m) (hO : Pick O i (.grow 1 T (cB l)) O') (hm : l.length = m) : GStep E env O (aupd env t (.fro 1 (l.map fun x => [.bool x]))) O' :=
 GStep.know hv (by rw [cB_flat]; exact hO) (fun r hr => by obtain ⟨_, _, rfl⟩ := List.mem_map.1 hr; rfl) (by decide) (by rw [qt]; exact hm)
end
structure Enc (α : Type) where
 k : Nat
 val : α → List Value
 pos : 0 < k
 len : ∀ x, (val x).length = k
 one : ∀ x, ∀ u ∈ val x, u.oneCell' = true
variable {α : Type}
def Enc.vs (c : Enc α) (l : List α) : List Value := l.flatMap c.val
def Enc.row (c : Enc α) (x : α) : List AV := (c.val x).map lit
def Enc.av (c : Enc α) (l : List α) : List AV := l.flatMap c.row
theorem Enc.vs_len (c : Enc α) (l : List α) : (c.vs l).length = l.length * c.k := by
 unfold Enc.vs
 induction l with
 | nil => simp
 | cons x l ih => rw [List.flatMap_cons, qs, ih, c.len, List.length_cons, Nat.add_mul]; omega
theorem Enc.av_eq (c : Enc α) (l : List α) : c.av l = (c.vs l).map lit := by
 unfold Enc.av Enc.vs
 induction l with
 | nil => rfl
 | cons x l ih => rw [List.flatMap_cons, List.flatMap_cons, qw, ih]; rfl
theorem Enc.av_len (c : Enc α) (l : List α) : (c.av l).length = l.length * c.k := by rw [c.av_eq, qt, c.vs_len]
theorem Enc.av_app (c : Enc α) (l m : List α) : c.av l ++ c.av m = c.av (l ++ m) := by unfold Enc.av; rw [List.flatMap_append]
theorem Enc.av_push (c : Enc α) (l : List α) (x : α) : c.av l ++ c.row x = c.av (l ++ [x]) := by rw [← c.av_app]; unfold Enc.av; simp
theorem Enc.vs_one (c : Enc α) (l : List α) : ∀ u ∈ c.vs l, u.oneCell' = true := by
 intro u hu
 unfold Enc.vs at hu
 obtain ⟨x, _, hx⟩ := List.mem_flatMap.1 hu
 exact c.one x u hx
theorem Enc.av_un (c : Enc α) {I : G} {l : List α} {vs : List Value} (h : RepL I (c.av l) vs) : vs = c.vs l := by rw [c.av_eq] at h; exact lit_uns h
def eI : Enc Int := ⟨1, fun x => [.int .i64 x], by decide, fun _ => rfl, fun x u hu => by simp at hu; subst hu; rfl⟩
def eP : Enc (Int × Int) := ⟨2, fun p => [.int .i64 p.1, .int .i64 p.2], by decide, fun _ => rfl, fun x u hu => by simp at hu; rcases hu with rfl | rfl <;> rfl⟩
inductive NestR (c : Enc α) (e : TypeId) : List (List α) → List Value → List (Nat × Obj) → Prop
 | nil : NestR c e [] [] []
 | cons {r rs a n cap hs A B} : OwnS c.k e a n cap (c.vs r) A → NestR c e rs hs B → NestR c e (r :: rs) (.slice a n cap :: hs) (A ++ B)
theorem NestR.len {c : Enc α} {e : TypeId} {rows : List (List α)} {hs : List Value} {L : List (Nat × Obj)} (h : NestR c e rows hs L) : hs.length = rows.length := by
 induction h with
 | nil => rfl
 | cons _ _ ih => simp [ih]
def NHole (c : Enc α) (e : TypeId) (rows : List (List α)) (j : Nat) (hs : List Value) (B : List (Nat × Obj)) : Prop :=
 ∀ r' a' n' c' A', OwnS c.k e a' n' c' (c.vs r') A' → ∃ L', NestR c e (rows.set j r') (hs.set j (.slice a' n' c')) L' ∧ L'.Perm (A' ++ B)
theorem NestR.get {c : Enc α} {e : TypeId} {rows : List (List α)} {hs : List Value} {L : List (Nat × Obj)} (h : NestR c e rows hs L) : ∀ {j : Nat} {r : List α}, rows[j]? = some r →
  ∃ a n cap A B, hs[j]? = some (.slice a n cap) ∧ OwnS c.k e a n cap (c.vs r) A ∧ L.Perm (A ++ B) ∧ NHole c e rows j hs B := by
 induction h with
 | nil => intro j r hj; simp at hj
 | @cons r0 rs a n cap hs A B h1 h2 ih =>
  intro j r hj
  cases j with
  | zero =>
   simp at hj; subst hj
   exact ⟨a, n, cap, A, B, rfl, h1, .refl _, fun r' a' n' c' A' h => ⟨A' ++ B, .cons h h2, .refl _⟩⟩
  | succ j =>
   obtain ⟨a1, n1, c1, A1, B1, g1, g2, g3, g4⟩ := ih (j := j) (r := r) (by simpa using hj)
   refine ⟨a1, n1, c1, A1, A ++ B1, by simpa using g1, g2, ?_, fun r' a' n' c' A' h => ?_⟩
   ·refine (g3.append_left A).trans ?_
    rw [← qo, ← qo]
    exact List.perm_append_comm.append_right B1
   ·obtain ⟨L', k1, k2⟩ := g4 r' a' n' c' A' h
    refine ⟨A ++ L', by simpa using NestR.cons h1 k1, ?_⟩
    refine (k2.append_left A).trans ?_
    rw [← qo, ← qo]
    exact List.perm_append_comm.append_right B1
theorem NestR.rep (c : Enc α) (e : TypeId) : ∀ m : Nat, NestR c e (List.replicate m []) (List.replicate m (.slice none 0 0)) []
 | 0 => .nil
 | m + 1 => by
  have := NestR.cons (c := c) (r := []) (OwnS.nil c.k e) (NestR.rep c e m)
  simpa [List.replicate_succ] using this
def nestO (c : Enc α) (T e : TypeId) (b : Nat) (rows : List (List α)) : AObj := .heap fun L => ∃ hs B, L = (b, .cells hs.toArray T (0, 0)) :: B ∧ NestR c e rows hs B
def nestH (c : Enc α) (T e : TypeId) (b : Nat) (rows : List (List α)) (j n i : Nat) : AObj := .heapG (fun I L => ∃ hs B hd, L = (b, .cells hs.toArray T (0, 0)) :: B ∧ I.h i = some hd ∧ hs[j]? = some (.slice (adr hd.1) n hd.2) ∧ hs.length = rows.length ∧ NHole c e rows j hs B)
 (fun I J L h hp => by obtain ⟨hs, B, hd, h1, h2, h3⟩ := hp; exact ⟨hs, B, hd, h1, h.h _ _ h2, h3⟩)
def nref (b n : Nat) : AV := .raw (.slice (some ⟨b, 0, none⟩) n n)
def nptr (b j : Nat) : AV := .raw (.pointer (some ⟨b, j, none⟩))
theorem OwnS.adr {k : Nat} {e : TypeId} {a : Option Addr} {n c : Nat} {cs : List Value} {A : List (Nat × Obj)} (h : OwnS k e a n c cs A) : ∃ b, a = Go.Proofs.YtpojdepccecpgaaGreatDoor.adr b := by
 rcases h.2.2 with ⟨e, _⟩ | ⟨b, junk, e, _⟩
 ·exact ⟨none, e⟩
 ·exact ⟨some b, e⟩
section
variable {E : World} {P : Program} {ops : Array Oper} {K : AEnv → OL → Prop} {env : AEnv} {O O' O'' : OL} {rest : List Oper} {n : Nat}
variable {d ty : Nat} {pos : String} {af : Array Edge} {x y z : Operand} {t u e T : TypeId}
theorem AOps.makeNest {i : TypeInfo} {zv : Value} {m : Nat} {k1 k2 : IntKind} {l l' : Int} (ht : P.underlying t = some (.slice T)) (hi : P.info? T = some i) (hz : i.zero = some zv) (hzc : zv.cells = #[.slice none 0 0]) (hk : i.size = 1) (hx : aev env x = .int k1 l) (hy : aev env y = .int k2 l')
  (hl : l = (m : Int)) (hl' : l' = (m : Int)) (hb : (i.bytes : Int) * (m : Int) ≤ 281474976710656) (hm : m ≤ 281474976710656) (c : Enc α) (e : TypeId) (kk : ∀ b, AOps P E ops K rest (aupd env d (nref b m)) ((0, nestO c T e b (List.replicate m [])) :: O)) :
  AOps P E ops K (Oper.mk (some d) (.makeSlice t x y) ty pos af none :: rest) env O := fun I F ρ w h1 h2 => by
 obtain ⟨htop, L, hL, hS⟩ := h2
 refine Ops.make1 ht hi hz hzc hk (evI h1 hx) (evI h1 hy) hl hl' hb hm hS fun b w' hS' => ?_
 exact kk b I F _ _ (h1.upd d rfl) ⟨htop, _, ⟨[(b, .cells (List.replicate m (.slice none 0 0)).toArray T (0, 0))], L, rfl, ⟨List.replicate m (.slice none 0 0), [], rfl, NestR.rep c e m⟩, hL⟩, by simpa using hS'⟩
theorem Gv.idxN {b m j : Nat} {a : Int} (ht : P.underlying t = some (.slice T)) (hs : ∀ w, (sizeOf T).run P w = .ok 1 w) (hx : aev env x = nref b m) (hy : aev env y = .int .i64 a) (hi : a = (j : Int)) (hj : j < m) :
  Gv P env O (Oper.mk (some d) (.indexAddr t x y) ty pos af none) (nptr b j) := qi fun I ρ h => by
 have h1 := evRaw h hx
 have h2 := evI h hy
 subst hi
 have hlt : ((j : Int) < (m : Int)) := by omega
 refine ⟨_, Z, fun w=>?_⟩
 simp [execOp, h1, h2, Instr.indexAt, Sem.run_bind, run_underlying ht, hs, hlt, addr_add, asIntOf]
 intro h; omega
theorem AOps.nestTake {c : Enc α} {b j m : Nat} {rows : List (List α)} {r : List α} {f : Nat → OL} (ha : ∀ w, (isAgg t).run P w = .ok false w) (hx : aev env x = nptr b j) (hr : rows[j]? = some r)
  (hO : ∀ i, Put O m (nestO c T e b rows) (nestH c T e b rows j r.length i) (f i)) (kk : ∀ i, AOps P E ops K rest (aupd env d (.own i r.length)) ((i, .grow c.k e (c.av r)) :: f i)) :
  AOps P E ops K (Oper.mk (some d) (.load t x) ty pos af none :: rest) env O := fun I F ρ w h1 h2 => by
 obtain ⟨i, hi⟩ := h2.name
 obtain ⟨htop, L, hL, hS⟩ := h2
 have hx := evRaw h1 hx
 obtain ⟨A, B, hp, ⟨hs, B0, rfl, hN⟩, hback⟩ := (hO i).rep hL
 obtain ⟨a, n, cap, A1, B1, g1, g2, g3, g4⟩ := hN.get hr
 obtain ⟨b1, rfl⟩ := g2.adr
 have hn : n = r.length := by have := g2.1; rw [c.vs_len] at this; exact (Nat.eq_of_mul_eq_mul_right c.pos this).symm
 subst hn
 obtain ⟨J, e1, hle, e2, htop'⟩ := hi (b1, cap)
 have hS2 : SL I.k ((b, .cells hs.toArray T (0, 0)) :: (B0 ++ (B ++ F))) E w := hS.perm (by
  have := hp.append_right F
  simpa using this.symm)
 obtain ⟨L', h5, h6⟩ := hback hle (A' := (b, .cells hs.toArray T (0, 0)) :: B1) ⟨hs, B1, (b1, cap), rfl, e2, g1, hN.len, g4⟩
 refine Ops.load1 (I := I.k) (O := (b, .cells hs.toArray T (0, 0)) :: (B0 ++ (B ++ F))) ha hS2 hx (.inr ⟨_, _, _, .head _, by rw [List.getElem?_toArray]; exact g1⟩) ?_
 refine yx (fun _ _ => qb hle) _ _ _ (kk i J F _ _ ((h1.mono hle).upd d ⟨b1, cap, e2, Z⟩) ⟨htop', A1 ++ L', ⟨A1, L', Z, ⟨b1, cap, _, c.vs r, e2, by rw [c.av_eq]; exact lit_reps J _, c.vs_one r, g2⟩, h5⟩, ?_⟩)
 rw [e1]
 refine hS2.perm<|List.Perm.trans ?_ (List.Perm.cons _ ((g3.append_right (B ++ F)).symm))
 have h7 : (A1 ++ L' ++ F).Perm (A1 ++ ((b, Obj.cells hs.toArray T (0, 0)) :: (B1 ++ B)) ++ F) := (h6.append_left A1).append_right F
 refine h7.trans ?_
 simp only [qo, List.cons_append]
 exact List.perm_middle
theorem AOps.nestPut {c : Enc α} {b j m i i0 n0 n1 k : Nat} {rows : List (List α)} {r : List α} {cs : List AV} (hs1 : ∀ w, (sizeOf t).run P w = .ok 1 w) (hx : aev env x = nptr b j) (hy : aev env y = .own i n1) (hj : j < rows.length)
  (hP0 : Pick O i (.grow k e cs) O') (hO : Put O' m (nestH c T e b rows j n0 i0) (nestO c T e b (rows.set j r)) O'') (hk : k = c.k) (hcs : cs = c.av r) (hn1 : r.length = n1) (kk : AOps P E ops K rest env O'') :
  AOps P E ops K (Oper.mk none (.store t x y) ty pos af none :: rest) env O := fun I F ρ w h1 h2 => by
 obtain ⟨htop, L, hL, hS⟩ := h2
 have hP : Pick O i (.grow c.k e (c.av r)) O' := by subst hk hcs; exact hP0
 have hx := evRaw h1 hx
 have h3 := h1.ev y
 rw [hy] at h3
 obtain ⟨b1, c1, e1, ey⟩ := h3
 obtain ⟨A, B, hp, ⟨b1', c1', n', vs, e2, hvs, hvc, hown⟩, hB⟩ := hP.rep hL
 simp only at e2
 rw [e1] at e2
 simp only [Option.some.injEq, Prod.mk.injEq] at e2
 obtain ⟨rfl, rfl⟩ := e2
 have hv := c.av_un hvs
 subst hv
 have hnn : n' = n1 := by have := hown.1; rw [c.vs_len, hn1] at this; exact (Nat.eq_of_mul_eq_mul_right c.pos this).symm
 subst hnn
 obtain ⟨A2, B2, hp2, ⟨hs, B0, hd, rfl, _, hsj, hsl, hole⟩, hback⟩ := hO.rep hB
 obtain ⟨L', k1, k2⟩ := hole r _ _ _ A hown
 have hS2 : SL I.k ([(b, .cells hs.toArray T (0, 0))] ++ (A ++ (B0 ++ (B2 ++ F)))) E w := hS.perm (by
  refine List.Perm.trans ?_ ((hp.append_right F).symm)
  refine List.Perm.trans ?_ (((hp2.append_left A).append_right F).symm)
  simp only [qo, List.cons_append, List.nil_append]
  exact (List.perm_middle).symm)
 refine Ops.store1 (cs := hs) (off := j) hs1 hx ey Z (by rw [hsl]; exact hj) hS2 fun w' hS' => ?_
 obtain ⟨L2, h7, h8⟩ := hback (G.le.refl I) (A' := (b, .cells (hs.set j (.slice (adr b1) n' c1)).toArray T (0, 0)) :: L') ⟨_, L', rfl, k1⟩
 refine kk I F _ _ h1 ⟨htop, L2, h7, hS'.perm ?_⟩
 refine (h8.append_right F).trans ?_
 simp only [List.cons_append, List.nil_append, qo]
 refine List.Perm.cons _ ?_
 have := k2.append_right (B2 ++ F)
 simpa [qo] using this
theorem SL.freezeAllN : ∀ {A : List (Nat × Obj)} {I : Ghost} {F : List (Nat × Obj)} {E w : World}, SL I (A ++ F) E w → ∃ J, I.le J ∧ SL J F E w ∧ ∀ x ∈ A, J x.1 = some x.2
 | [], I, F, E, w, h => ⟨I, .refl _, h, fun _ h => by cases h⟩
 | (b, o) :: A, I, F, E, w, h => by
  obtain ⟨h1, h2⟩ := SL.freeze (show SL I ((b, o) :: (A ++ F)) E w from h)
  obtain ⟨J, h3, h4, h5⟩ := SL.freezeAllN h2
  refine ⟨J, h1.trans h3, h4, fun x hx => ?_⟩
  rcases List.mem_cons.1 hx with rfl | hx
  ·exact h3 _ _ (Ghost.put_same _ _ _)
  ·exact h5 x hx
theorem OwnS.fro {c : Enc α} {I : G} {e : TypeId} {a : Option Addr} {n cap : Nat} {r : List α} {A : List (Nat × Obj)} (h : OwnS c.k e a n cap (c.vs r) A) (hI : ∀ x ∈ A, I.k x.1 = some x.2) : RepV I (.fro c.k (r.map c.row)) (.slice a n cap) := by
 obtain ⟨h1, h2, h3⟩ := h
 have hn : n = r.length := by rw [c.vs_len] at h1; exact (Nat.eq_of_mul_eq_mul_right c.pos h1).symm
 subst hn
 rcases h3 with ⟨rfl, rfl, _⟩ | ⟨b, junk, rfl, rfl, hj⟩
 ·have h0 : r = [] := List.eq_nil_of_length_eq_zero (by omega)
  subst h0
  exact ⟨none, 0, 0, rfl, rfl, Nat.le_refl _, fun _ => rfl, trivial⟩
 ·have hb := hI _ (.head _)
  simp only at hb
  have hflat : (r.map c.row).flatten = (c.vs r).map lit := by rw [← c.av_eq]; unfold Enc.av; rw [List.flatMap]
  refine ⟨_, _, _, Z, by simp, h2, fun e => (by cases e), RepR.of_flat hb (r.map c.row) (c.vs r) 0 (fun x hx => by obtain ⟨y, _, rfl⟩ := List.mem_map.1 hx; unfold Enc.row; rw [qt, c.len]) (by rw [hflat]; exact lit_reps I _) fun i u hu => ?_⟩
  rw [Nat.zero_mul, Nat.zero_add, List.getElem?_toArray, List.getElem?_append_left (List.getElem?_eq_some_iff.1 hu).1]
  exact hu
theorem NestR.fro {c : Enc α} {I : G} {e : TypeId} {rows : List (List α)} {hs : List Value} {B : List (Nat × Obj)} (h : NestR c e rows hs B) (hI : ∀ x ∈ B, I.k x.1 = some x.2) : RepL I (rows.map fun r => .fro c.k (r.map c.row)) hs := by
 induction h with
 | nil => rfl
 | cons h1 _ ih => exact ⟨_, _, rfl, h1.fro fun x hx => hI x (List.mem_append_left _ hx), ih fun x hx => hI x (List.mem_append_right _ hx)⟩
def froN (c : Enc α) (rows : List (List α)) : AV := .fro 1 (rows.map fun r => [.fro c.k (r.map c.row)])
theorem nest_know {c : Enc α} {I : G} {F : List (Nat × Obj)} {E w : World} {b m : Nat} {rows : List (List α)} (hO : Pick O m (nestO c T e b rows) O') (h : SLA I O F E w) : ∃ J B, I.le J ∧ RepOs I O' B ∧ (∃ top, ∀ i, top ≤ i → J.h i = none) ∧ SL J.k (B ++ F) E w ∧ RepV J (froN c rows) (.slice (some ⟨b, 0, none⟩) rows.length rows.length) := by
 obtain ⟨htop, L, hL, hS⟩ := h
 obtain ⟨A, B, hp, ⟨hs, B0, rfl, hN⟩, hB⟩ := hO.rep hL
 have hS2 : SL I.k (((b, .cells hs.toArray T (0, 0)) :: B0) ++ (B ++ F)) E w := hS.perm (by rw [← qo]; exact (hp.append_right F).symm)
 obtain ⟨J, h1, h2, h3⟩ := SL.freezeAllN hS2
 have hle : I.le ⟨J, I.h⟩ := ⟨h1, fun _ _ h => h⟩
 refine ⟨⟨J, I.h⟩, B, hle, hB, htop, h2, ?_⟩
 have hb := h3 _ (.head _)
 simp only at hb
 have hrep := hN.fro (I := ⟨J, I.h⟩) fun x hx => h3 x (.tail _ hx)
 refine ⟨_, _, _, Z, by simp, Nat.le_refl _, fun e => (by cases e), RepR.intro fun j row hj => ?_⟩
 rw [qu] at hj
 obtain ⟨r, hr, rfl⟩ := Option.map_eq_some_iff.1 hj
 obtain ⟨v, hv1, hv2⟩ := hrep.get (j := j) (x := .fro c.k (r.map c.row)) (by rw [qu, hr]; rfl)
 refine ⟨b, 0, [v], Z, Z, RepL.one hv2, fun i u hu => ?_⟩
 cases i with
 | zero =>
  simp at hu; subst hu
  exact ⟨_, _, _, hb, by rw [List.getElem?_toArray, show 0 + (0 + j) * 1 + 0 = j by omega]; exact hv1⟩
 | succ i => simp at hu
theorem GStep.nestKnow {c : Enc α} {s b m n : Nat} {rows : List (List α)} (hv : env s = nref b n) (hO : Pick O m (nestO c T e b rows) O') (hn : rows.length = n) : GStep E env O (aupd env s (froN c rows)) O' := fun I F ρ w h1 h2 => by
 obtain ⟨J, B, hle, hB, htop, hS, hrep⟩ := nest_know hO h2
 refine ⟨J, hle, fun q=>?_, htop, B, hB.mono hle, hS⟩
 unfold aupd
 cases hb : Nat.beq q s with
 | false => exact RepV.mono hle _ _ (h1 q)
 | true =>
  have : q = s := Nat.eq_of_beq_eq_true hb
  subst this
  have h4 := h1 q
  rw [hv] at h4
  have h4 : ρ q = .slice (some ⟨b, 0, none⟩) n n := h4
  rw [h4, ← hn]; exact hrep
end
end Go.Proofs.YtpojdepccecpgaaGreatDoor
namespace Go.Proofs.YtpojdepccecpgaaGreatDoor
open Go.Proofs.Tryz
section
variable {E : World} {P : Program} {ops : Array Oper} {K : AEnv → OL → Prop} {env : AEnv} {O O' O'' : OL} {rest : List Oper} {n : Nat}
variable {d ty : Nat} {pos : String} {af : Array Edge} {x y z : Operand} {t u e : TypeId}
theorem AOps.cutTo {i k m j : Nat} {a : Int} {T : TypeId} {cs : List AV} (ht : P.underlying t = some (.slice e)) (hs : ∀ w, (sizeOf e).run P w = .ok k w) (hx : aev env x = .own i m) (hy : aev env y = .int .i64 a) (hi : a = (j : Int)) (hO : Put O i (.grow k T cs) (.grow k T (cs.take (j * k))) O')
  (hk : 0 < k) (hj : j * k ≤ cs.length)
  (kk : AOps P E ops K rest (aupd env d (.own i j)) O') : AOps P E ops K (Oper.mk (some d) (.slice t x none (some y) none) ty pos af none :: rest) env O := fun I F ρ w h1 h2 => by
 obtain ⟨htop, L, hL, hS⟩ := h2
 have h3 := h1.ev x
 rw [hx] at h3
 obtain ⟨b, c, e1, e2⟩ := h3
 have h4 := evI h1 hy
 subst hi
 obtain ⟨A, B, hp, ⟨b', c', n', vs, e3, hvs, hvc, h5, h6, h7⟩, hback⟩ := hO.rep hL
 simp only at e3
 rw [e1] at e3
 simp only [Option.some.injEq, Prod.mk.injEq] at e3
 obtain ⟨rfl, rfl⟩ := e3
 have hlen : vs.length = cs.length := hvs.length
 have hjn : j ≤ n' := by
  have : j * k ≤ n' * k := by omega
  exact Nat.le_of_mul_le_mul_right this hk
 have hjc : j ≤ c := by omega
 have hval : (execOp (Go.Proofs.YtpojdepccecpgaaGreatDoor.ev ρ) (Oper.mk (some d) (.slice t x none (some y) none) ty pos af none)).run P w = .ok (.value (.slice (adr b) j c)) w := by
  have : (if c = 0 then adr b else (adr b).map (·.add (0 * k))) = adr b := by
   split
   ·rfl
   ·cases b <;> simp [adr, Addr.add]
  simp [execOp, Instr.sliceAt, Instr.slice, Instr.sliceBounds, Instr.sliceBound, asIntOf, Sem.run_bind, run_underlying ht, hs, e2, h4, hjc]
  simpa using this
 obtain ⟨L', h8, h9⟩ := hback (G.le.refl I) (A' := A) ⟨b, c, j, vs.take (j * k), e1, hvs.take _, fun u hu => hvc u (List.mem_of_mem_take hu), by rw [qx]; omega, by omega, by
  rcases h7 with h7 | ⟨b2, junk, e4, e5, e6⟩
  ·exact .inl ⟨h7.1, h7.2.1, h7.2.2⟩
  ·exact .inr ⟨b2, vs.drop (j * k) ++ junk, e4, by rw [← qo, List.take_append_drop]; exact e5, by rw [← qo, List.take_append_drop]; exact e6⟩⟩
 exact Ops.val hval (kk I F _ w (h1.upd d ⟨b, c, e1, rfl⟩) ⟨htop, L', h8, hS.perm ((h9.trans hp.symm).append_right F)⟩)
theorem AOps.cutLast {i k m j : Nat} {a : Int} {T : TypeId} {A row : List AV} (ht : P.underlying t = some (.slice e)) (hs : ∀ w, (sizeOf e).run P w = .ok k w) (hx : aev env x = .own i m) (hy : aev env y = .int .i64 a) (hi : a = (j : Int)) (hO : Put O i (.grow k T (A ++ row)) (.grow k T A) O')
  (hk : 0 < k) (hA : A.length = j * k)
  (kk : AOps P E ops K rest (aupd env d (.own i j)) O') : AOps P E ops K (Oper.mk (some d) (.slice t x none (some y) none) ty pos af none :: rest) env O :=
 AOps.cutTo ht hs hx hy hi (hO.cast (by rw [← hA, List.take_left])) hk (by rw [qs]; omega) kk
end
set_option linter.defProp false
def zp := @Pick.perm
def yi := @GStep.knowP
def yj := @Gv.idxI
def q6 := @AOps.storeI
def q7 := @AAny.two
def q8 := @RepL.fld
def qd := @AOps.storeB
def qf := @AOps.makeI
def qg := @Dec.at
def qh := @Gv.loadI
end Go.Proofs.YtpojdepccecpgaaGreatDoor
