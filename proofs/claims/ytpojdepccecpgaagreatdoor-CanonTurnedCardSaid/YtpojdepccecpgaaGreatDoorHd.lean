/- Bytes put behind bytes, and read as a string; a pointer to a variable held against itself. No conditions but bounds. -/
import Derived.Test.YtpojdepccecpgaaGreatDoorHc
import Derived.Laws.BytesArg
import Derived.ProofKit
import Derived.OpenShut
import Derived.Deep.Matrix
import Derived.Lib.LaidU8
import Derived.Lib.LaidTab
import Derived.MapKept
import Derived.WideMake
import Derived.Laws.Cover4
import Derived.WideLaws
import Derived.Lib.AppendZeros
import Derived.Lib.Builder
import Derived.Lib.AppendStr
import Derived.Lib.UnsafeStr
import Derived.Laws.Externs
set_option linter.unusedVariables false
set_option linter.unusedSimpArgs false
set_option linter.unusedSectionVars false
namespace Go.Proofs.YtpojdepccecpgaaGreatDoor
open Go.Proofs.Tryz
def setsT (l : List Bool) (bs : List Int) : List Bool := bs.foldl (fun l b => l.set b.toNat true) l
theorem setsT_len : ∀ (bs : List Int) (l : List Bool), (setsT l bs).length = l.length
 | [], _ => rfl
 | b :: bs, l => by show (setsT (l.set b.toNat true) bs).length = _; rw [setsT_len bs, List.length_set]
theorem setsT_snoc (l : List Bool) (bs : List Int) (b : Int) : setsT l (bs ++ [b]) = (setsT l bs).set b.toNat true := by unfold setsT; rw [List.foldl_append]; rfl
theorem setsT_get (k : Nat) : ∀ (bs : List Int) (l : List Bool), (∀ b ∈ bs, 0 ≤ b) → k < l.length → (setsT l bs)[k]? = some (decide ((k : Int) ∈ bs) || (l[k]?).getD false)
 | [], l, _, hk => by show l[k]? = _; rw [qa hk]; simp
 | b :: bs, l, h, hk => by
  show (setsT (l.set b.toNat true) bs)[k]? = _
  rw [setsT_get k bs _ (fun c hc => h c (.tail _ hc)) (by rw [List.length_set]; exact hk), List.getElem?_set]
  have h0 := h b (.head _)
  by_cases e : b.toNat = k
  ·have : (k : Int) = b := by omega
   rw [if_pos e, if_pos (by omega), this]; simp
  ·have : ¬ (k : Int) = b := by omega
   rw [if_neg e]; simp [this]
def reachB (E : Int → List Int) (n : Nat) : List Bool := setsT (List.replicate n false) (orderT E n)
theorem reachB_get {E : Int → List Int} {n : Nat} (hE : EOk E n) {k : Nat} (hk : k < n) : (reachB E n)[k]? = some (decide ((k : Int) ∈ orderT E n)) := by
 unfold reachB
 rw [setsT_get k _ _ (fun b hb => (order_rng hE hb).1) (by simp; exact hk)]
 simp [hk]
def phJ (f : PFunc) (i : Nat) (p : PPhi) : Bool := decide (sortI p.from_ = predsT (EndsOf f) f.blocks.length i)
def blkJ (f : PFunc) (i : Nat) : Bool := ((f.blocks[i]?).map fun b => b.phis.all (phJ f i)).getD true
def joinedB (f : PFunc) : Bool := (List.range f.blocks.length).all (blkJ f)
theorem blkJ_at {f : PFunc} {i : Nat} {b : PBlock} (h : f.blocks[i]? = some b) : blkJ f i = b.phis.all (phJ f i) := by unfold blkJ; rw [h]; rfl
theorem joinedB_iff (f : PFunc) : joinedB f = true ↔ JoinP f := by
 unfold joinedB JoinP
 rw [List.all_eq_true]
 constructor
 ·intro h i hi p hp
  have := h i (List.mem_range.2 hi)
  rw [blkJ_at (qa hi), List.all_eq_true] at this
  exact joinS_iff.1 (by simpa [phJ] using this p hp)
 ·intro h i hi
  have hi := List.mem_range.1 hi
  rw [blkJ_at (qa hi), List.all_eq_true]
  intro p hp
  simpa [phJ] using joinS_iff.2 (h i hi p hp)
theorem range_all_succ {p : Nat → Bool} {k : Nat} (h : (List.range k).all p = true) (hk : p k = true) : (List.range (k + 1)).all p = true := by rw [List.range_succ, List.all_append, h]; simp [hk]
theorem range_all_bad {p : Nat → Bool} {k n : Nat} (hk : k < n) (h : p k = false) : (List.range n).all p = false := by
 rw [Bool.eq_false_iff]; intro ha
 have := List.all_eq_true.1 ha k (List.mem_range.2 hk)
 rw [h] at this; cases this
def evPh (i : Nat) (ps : List PPhi) : List (Int × Plc) := ps.map fun p => (p.dst, ((i : Int), -1))
def evIn (i : Nat) (xs : List PInst) : List (Int × Plc) := (xs.zipIdx.filter fun x => decide (0 ≤ x.1.dst)).map fun x => (x.1.dst, ((i : Int), (x.2 : Int)))
def evBl (i : Nat) (b : PBlock) : List (Int × Plc) := evPh i b.phis ++ evIn i b.insts
def evTo (f : PFunc) (k : Nat) : List (Int × Plc) := ((f.blocks.take k).zipIdx).flatMap fun b => evBl b.2 b.1
theorem zipTake {α : Type} {l : List α} {k : Nat} (h : k < l.length) : (l.take (k + 1)).zipIdx = (l.take k).zipIdx ++ [(l[k], k)] := by
 rw [qb h, List.zipIdx_append, ql, Nat.min_eq_left (by omega)]
 simp
theorem evTo_succ {f : PFunc} {k : Nat} (h : k < f.blocks.length) : evTo f (k + 1) = evTo f k ++ evBl k f.blocks[k] := by
 unfold evTo; rw [zipTake h, List.flatMap_append]; simp
theorem evIn_len (i : Nat) (xs : List PInst) : (evIn i xs).length ≤ xs.length := by
 unfold evIn; rw [qh]; exact Nat.le_trans (List.length_filter_le _ _) (by simp)
theorem evBl_len (i : Nat) (b : PBlock) : (evBl i b).length ≤ b.phis.length + b.insts.length := by
 have := evIn_len i b.insts
 unfold evBl evPh; rw [qg, qh]; omega
theorem evTo_len {f : PFunc} {m : Nat} (h : ∀ b ∈ f.blocks, b.phis.length + b.insts.length ≤ m) : ∀ k, k ≤ f.blocks.length → (evTo f k).length ≤ k * m
 | 0, _ => by simp [evTo]
 | k + 1, hk => by
  have h1 := evTo_len h k (by omega)
  have h2 := evBl_len k f.blocks[k]
  have h3 := h _ (qe (show k < f.blocks.length by omega))
  rw [evTo_succ (by omega), qg, Nat.add_mul]; omega
def aheadB (f : PFunc) (m : Plc) (b at_ : Int) : Bool := if m.1 < 0 then true else if m.1 = b then decide (m.2 < at_) else domB (EndsOf f) f.blocks.length m.1 b
end Go.Proofs.YtpojdepccecpgaaGreatDoor
namespace Go.Proofs.YtpojdepccecpgaaGreatDoor
open Go.Proofs.Tryz
open Go.Proofs
variable {E : World}
set_option maxRecDepth 20000
def okL {α : Type} (l : List α) : Prop := l.length ≤ 140737488355328
def okPhi (p : PPhi) : Prop := okL p.args ∧ okL p.from_
def okBlk (b : PBlock) : Prop := okL b.phis ∧ okL b.insts ∧ (∀ p ∈ b.phis, okPhi p) ∧ (∀ x ∈ b.insts, okL x.args)
def okFunc (f : PFunc) : Prop := okL f.vars ∧ okL f.params ∧ okL f.blocks ∧ ∀ b ∈ f.blocks, okBlk b
theorem okL.lt {α : Type} {l : List α} (h : okL l) : l.length ≤ 140737488355328 := h
theorem jb {x y : Bool} (h : x = y) : AV.bool x = AV.bool y := congrArg AV.bool h
theorem impNil (k : Nat) : ∀ I v, RepV I (.raw (.slice none 0 0)) v → RepV I (.fro k []) v := fun _ _ h => ⟨none, 0, 0, h, rfl, Nat.le_refl _, fun _ => rfl, trivial⟩
theorem eq_var (a c : ByteArray) (b d : Int) (w : World) : (Op.equalIn 10000 58 (.agg [.string a, .int .i64 b].toArray) (.agg [.string c, .int .i64 d].toArray)).run prog w = .ok (decide (a = c ∧ b = d)) w := by
 have hS : prog.underlying 58 = some (.struct (prog.fieldsOf 58)) := by kernel_rfl
 have hp : prog.stoodInHeld 58 = false := by kernel_rfl
 rw [show (10000 : Nat) = 9999 + 1 from rfl, run_equalIn_agg w 9999 _ _ _ hS hp]
 simp only [Program.fieldsOf, Z5]
 simp [Op.eqFields, part, Za, isAgg56, run_equalIn_string, run_equalIn_int, Z4, underlying56]
 have e := bytes_eq a c
 by_cases h1 : a = c
 ·subst h1; by_cases h2 : b = d <;> simp [h2]
 ·have h3 : ¬ a.toList = c.toList := by simpa [h1] using e
  simp [h1, h3]
theorem eq_arr (a b c d : Int) (w : World) (m : Nat) : (Op.equalIn (m + 2) 64 (.agg [.int .i64 a, .int .i64 b].toArray) (.agg [.int .i64 c, .int .i64 d].toArray)).run prog w = .ok (decide (a = c ∧ b = d)) w := by
 rw [Op.equalIn]
 simp only [Sem.run_bind, run_underlying jr, Result.andThen_ok]
 simp only [Std.Legacy.Range.forIn_eq_forIn_range', Std.Legacy.Range.size, Nat.sub_zero, Nat.add_sub_cancel, Nat.div_one, List.range'_succ, List.range'_zero, List.forIn_cons, List.forIn_nil]
 simp [part, jl, j8, run_equalIn_int, Z8]
 by_cases h1 : a = c <;> by_cases h2 : b = d <;> simp [h1, h2]
theorem eq_term (k v t0 t1 k' v' t0' t1' : Int) (w : World) : (Op.equalIn 10000 66 (.agg [.int .i64 k, .int .i64 v, .int .i64 t0, .int .i64 t1].toArray) (.agg [.int .i64 k', .int .i64 v', .int .i64 t0', .int .i64 t1'].toArray)).run prog w = .ok (decide (k = k' ∧ v = v' ∧ t0 = t0' ∧ t1 = t1')) w := by
 have hS : prog.underlying 66 = some (.struct (prog.fieldsOf 66)) := by kernel_rfl
 have hp : prog.stoodInHeld 66 = false := by kernel_rfl
 rw [show (10000 : Nat) = 9999 + 1 from rfl, run_equalIn_agg w 9999 _ _ _ hS hp]
 simp only [Program.fieldsOf, je]
 have ha : (Op.equalIn 9999 64 (.agg #[.int .i64 t0, .int .i64 t1]) (.agg #[.int .i64 t0', .int .i64 t1'])).run prog w = .ok (decide (t0 = t0' ∧ t1 = t1')) w := eq_arr t0 t1 t0' t1' w 9997
 simp [Op.eqFields, part, jl, Zl, isAgg64, jy, run_equalIn_int, Z8, underlying63, ha]
 by_cases h1 : k = k' <;> by_cases h2 : v = v' <;> by_cases h3 : t0 = t0' <;> by_cases h4 : t1 = t1' <;> simp [h1, h2, h3, h4]
theorem term_iff (x y : PTerm) : decide (x = y) = decide (x.kind = y.kind ∧ x.var = y.var ∧ x.to0 = y.to0 ∧ x.to1 = y.to1) := by
 cases x; cases y; simp
theorem phi_iff (x y : PPhi) : decide (x = y) = (decide (x.dst = y.dst) && decide (x.args = y.args) && decide (x.from_ = y.from_)) := by
 cases x; cases y; simp [Bool.and_assoc]
theorem inst_iff (x y : PInst) : decide (x = y) = (decide (x.op = y.op) && decide (x.dst = y.dst) && decide (x.num = y.num) && decide (x.args = y.args)) := by
 cases x; cases y; apply Bool.eq_iff_iff.2; simp; constructor <;> (intro h; simp_all)
theorem blk_iff (x y : PBlock) : decide (x = y) = (decide (x.name = y.name) && decide (x.term = y.term) && decide (x.phis = y.phis) && decide (x.insts = y.insts)) := by
 cases x; cases y; apply Bool.eq_iff_iff.2; simp; constructor <;> (intro h; simp_all)
theorem var_ext {x y : PVar} (h : x.name = y.name ∧ x.ty = y.ty) : x = y := by
 cases x; cases y; simp_all
theorem func_iff (x y : PFunc) : decide (x = y) = (decide (x.vars = y.vars) && decide (x.params = y.params) && decide (x.blocks = y.blocks)) := by
 cases x; cases y; simp [Bool.and_assoc]
theorem equalI_spec (xs ys : List Int) (hl : okL xs) : AFun prog E 78 [.fro 1 (xs.map encI), .fro 1 (ys.map encI)] (.bool (decide (xs = ys))) := by
 have hl := hl.lt
 refine zt func78 Z (by decide) Z<|zSr<|zVzAb Z<|z6<|ze<|zSr<|zVzMf Z<|zVGvlenM j6 Z<|zVzMf Z<|zVGvlenM j6 Z<|zVGvneqI Z Z<|z6<|y3 Z (fun c0=>?_) (fun c0=>?_)
 ·have h : ¬ xs = ys := fun e => by subst e; simp at c0
  refine zSr<|zVzAb Z<|z6<|zk<|zm (x := .bool _) Z ?_
  rw [qn h]
 ·have hl2 : xs.length = ys.length := by simp at c0; omega
  refine zj<|ze<|zSr<|zVzMf Z<|zVGvlenM j6 Z<|zVzMi Z<|z6<|zi<|y7 (γ := Nat) [0, 1, 12] (fun k => [(13, .int .i64 k)]) (fun k => []) (fun k => k ≤ xs.length ∧ xs.take k = ys.take k) (fun k => xs.length - k) 0 zR1 zLe (⟨qd _, Z⟩) ?_
  rintro k ⟨hk, he⟩
  refine zSr<|zVGvlss Z Z<|z6<|ze<|y2 Z (fun ck=>?_) (fun ck=>?_)
  ·have hk2 : k < xs.length := by omega
   have hk3 : k < ys.length := by omega
   refine zj<|ze<|zi<|zSr<|zVzMi Z<|zVzAi Z<|z6<|ze<|y6 (fun j => false) (by kernel_rfl) Z (yb (.rest _))<|zTk 0 Z (zMf Z)<|zTk 1 Z (zMi Z)<|zTk 2 Z (yi j6 j8 Z Z Z (qa (by omega)))<|zTk 3 Z (zLi jl Z)<|zTk 4 Z (zMf Z)<|zTk 5 Z (zMi Z)<|zTk 6 Z (yi j6 j8 Z Z Z (qa (by omega)))<|zTk 7 Z (zLi jl Z)<|zTk 8 Z (Gv.neqI Z Z)<|zDn<|y3 Z (fun cd=>?_) (fun cd=>?_)
   ·refine zSr<|zVzAb Z<|z6<|zk<|zm (x := .bool _) Z ?_
    rw [qn (ne_at hk2 hk3 (by simpa using cd))]
   ·refine zj<|zRg<|zVzAd Z Z<|zVzMi Z<|z6 ?_
    exact ⟨k + 1, zR3, zR1, zLe, ⟨hk2, take_push hk2 hk3 he (by simpa using cd)⟩, by omega⟩
  ·refine y5<|zSr<|zVzAb Z<|z6<|zk<|zm (x := .bool _) Z ?_
   rw [qm (take_done hl2 (by omega) he)]
theorem ints_spec (xs ys : List Int) (hl : okL xs) : AFun prog E 37 [.fro 1 (xs.map encI), .fro 1 (ys.map encI)] (.bool (decide (xs = ys))) := by
 have hl := hl.lt
 refine zt func37 Z (by decide) Z<|zSr<|zVzAb Z<|z6<|ze<|zSr<|zVzMf Z<|zVGvlenM j6 Z<|zVzMf Z<|zVGvlenM j6 Z<|zVGvneqI Z Z<|z6<|y3 Z (fun c0=>?_) (fun c0=>?_)
 ·have h : ¬ xs = ys := fun e => by subst e; simp at c0
  refine zSr<|zVzAb Z<|z6<|zk<|zm (x := .bool _) Z ?_
  rw [qn h]
 ·have hl2 : xs.length = ys.length := by simp at c0; omega
  refine zj<|ze<|zSr<|zVzMf Z<|zVGvlenM j6 Z<|zVzMi Z<|z6<|zi<|y7 (γ := Nat) [0, 1, 12] (fun k => [(13, .int .i64 k)]) (fun k => []) (fun k => k ≤ xs.length ∧ xs.take k = ys.take k) (fun k => xs.length - k) 0 zR1 zLe (⟨qd _, Z⟩) ?_
  rintro k ⟨hk, he⟩
  refine zSr<|zVGvlss Z Z<|z6<|ze<|y2 Z (fun ck=>?_) (fun ck=>?_)
  ·have hk2 : k < xs.length := by omega
   have hk3 : k < ys.length := by omega
   refine zj<|ze<|zi<|zSr<|zVzMi Z<|zVzAi Z<|z6<|ze<|y6 (fun j => false) (by kernel_rfl) Z (yb (.rest _))<|zTk 0 Z (zMf Z)<|zTk 1 Z (zMi Z)<|zTk 2 Z (yi j6 j8 Z Z Z (qa (by omega)))<|zTk 3 Z (zLi jl Z)<|zTk 4 Z (zMf Z)<|zTk 5 Z (zMi Z)<|zTk 6 Z (yi j6 j8 Z Z Z (qa (by omega)))<|zTk 7 Z (zLi jl Z)<|zTk 8 Z (Gv.neqI Z Z)<|zDn<|y3 Z (fun cd=>?_) (fun cd=>?_)
   ·refine zSr<|zVzAb Z<|z6<|zk<|zm (x := .bool _) Z ?_
    rw [qn (ne_at hk2 hk3 (by simpa using cd))]
   ·refine zj<|zRg<|zVzAd Z Z<|zVzMi Z<|z6 ?_
    exact ⟨k + 1, zR3, zR1, zLe, ⟨hk2, take_push hk2 hk3 he (by simpa using cd)⟩, by omega⟩
  ·refine y5<|zSr<|zVzAb Z<|z6<|zk<|zm (x := .bool _) Z ?_
   rw [qm (take_done hl2 (by omega) he)]
theorem equalV_spec (xs ys : List PVar) (hl : okL xs) : AFun prog E 77 [.fro 2 (xs.map encVar), .fro 2 (ys.map encVar)] (.bool (decide (xs = ys))) := by
 have hl := hl.lt
 refine zt func77 Z (by decide) Z<|zSr<|zVzAb Z<|z6<|ze<|zSr<|zVzMf Z<|zVGvlenM jk Z<|zVzMf Z<|zVGvlenM jk Z<|zVGvneqI Z Z<|z6<|y3 Z (fun c0=>?_) (fun c0=>?_)
 ·have h : ¬ xs = ys := fun e => by subst e; simp at c0
  refine zSr<|zVzAb Z<|z6<|zk<|zm (x := .bool _) Z ?_
  rw [qn h]
 ·have hl2 : xs.length = ys.length := by simp at c0; omega
  refine zj<|ze<|zSr<|zVzMf Z<|zVGvlenM jk Z<|zVzMi Z<|z6<|zi<|y7 (γ := Nat) [0, 1, 12] (fun k => [(13, .int .i64 k)]) (fun k => []) (fun k => k ≤ xs.length ∧ xs.take k = ys.take k) (fun k => xs.length - k) 0 zR1 zLe (⟨qd _, Z⟩) ?_
  rintro k ⟨hk, he⟩
  refine zSr<|zVGvlss Z Z<|z6<|ze<|y2 Z (fun ck=>?_) (fun ck=>?_)
  ·have hk2 : k < xs.length := by omega
   have hk3 : k < ys.length := by omega
   refine zj<|ze<|zi<|zSr<|zVzMi Z<|zVzAi Z<|z6<|ze<|y6 (fun j => false) (by kernel_rfl) Z (yb (.rest _))<|zTk 0 Z (zMf Z)<|zTk 1 Z (zMi Z)<|zTk 2 Z (yi jk Z2 Z Z Z (qa (by omega)))<|zTk 3 Z (yo Yf Z2 Z Z)<|zTk 4 Z (zMf Z)<|zTk 5 Z (zMi Z)<|zTk 6 Z (yi jk Z2 Z Z Z (qa (by omega)))<|zTk 7 Z (yo Yf Z2 Z Z)<|zTk 8 Z (Gv.neqP (xs := [.string _, .int _ _]) (ys := [.string _, .int _ _]) (by kernel_rfl) Z Z (fun w => eq_var _ _ _ _ w))<|zDn<|y3 Z (fun cd=>?_) (fun cd=>?_)
   ·refine zSr<|zVzAb Z<|z6<|zk<|zm (x := .bool _) Z ?_
    rw [qn (ne_at hk2 hk3 (by intro e; simp [e] at cd))]
   ·refine zj<|zRg<|zVzAd Z Z<|zVzMi Z<|z6 ?_
    exact ⟨k + 1, zR3, zR1, zLe, ⟨hk2, take_push hk2 hk3 he (var_ext (by simpa using cd))⟩, by omega⟩
  ·refine y5<|zSr<|zVzAb Z<|z6<|zk<|zm (x := .bool _) Z ?_
   rw [qm (take_done hl2 (by omega) he)]
theorem equalP_spec {fn : FuncId} {c : List AV} (xs ys : List PPhi) (hl : okL xs) (hp : ∀ x ∈ xs, ∀ y, AFun prog E fn ([.agg (encPhi x), .agg (encPhi y)] ++ c) (.bool (decide (x = y)))) : AFun prog E 112 [.fro 3 (xs.map encPhi), .fro 3 (ys.map encPhi), .fn fn [] c] (.bool (decide (xs = ys))) := by
 have hl := hl.lt
 refine zt func112 Z (by decide) Z<|zSr<|zVzAb Z<|z6<|ze<|zSr<|zVzMf Z<|zVGvlenM jo Z<|zVzMf Z<|zVGvlenM jo Z<|zVGvneqI Z Z<|z6<|y3 Z (fun c0=>?_) (fun c0=>?_)
 ·have h : ¬ xs = ys := fun e => by subst e; simp at c0
  refine zSr<|zVzAb Z<|z6<|zk<|zm (x := .bool _) Z ?_
  rw [qn h]
 ·have hl2 : xs.length = ys.length := by simp at c0; omega
  refine zj<|ze<|zSr<|zVzMf Z<|zVGvlenM jo Z<|zVzMi Z<|z6<|zi<|y7 (γ := Nat) [1, 2, 15, 16] (fun k => [(17, .int .i64 k)]) (fun k => []) (fun k => k ≤ xs.length ∧ xs.take k = ys.take k) (fun k => xs.length - k) 0 zR1 zLe (⟨qd _, Z⟩) ?_
  rintro k ⟨hk, he⟩
  refine zSr<|zVGvlss Z Z<|z6<|ze<|y2 Z (fun ck=>?_) (fun ck=>?_)
  ·have hk2 : k < xs.length := by omega
   have hk3 : k < ys.length := by omega
   refine zj<|ze<|zi<|zSr<|zVzMi Z<|z8 (yi jo ju Z Z Z (qa (by omega)))<|zVGvloadWF Zj ju Z Z<|zo (cs := [.int .i64 0, .raw (.slice none 0 0), .raw (.slice none 0 0)]) Z9 Z Z<|fun i8 => zVzAi Z<|zh ju Z Z Z Z Z Z .head Z<|z6<|zSr<|zVzMf Z<|zVzMi Z<|z8 (yi jo ju Z Z Z (qa (by omega)))<|zVGvloadWF Zj ju Z Z<|zo (cs := [.int .i64 0, .raw (.slice none 0 0), .raw (.slice none 0 0)]) Z9 Z Z<|fun i9 => zh ju Z Z Z Z Z Z .head Z<|z6<|zSr<|z8 (ye (v := .fn _ _ _) Z)<|z8 (yh Zj ju Z ⟨_, .t1⟩ Z)<|z8 (yh Zj ju Z ⟨_, .head⟩ Z)<|AOps.callVP Z (hp _ (qe _) _) Z<|zVGvnot Z<|z6<|y3 Z (fun cd=>?_) (fun cd=>?_)
   ·refine zSr<|zVzAb Z<|z6<|zk<|zm (x := .bool _) Z ?_
    rw [qn (ne_at hk2 hk3 (by simpa using cd))]
   ·refine zj<|zRg<|zVzAd Z Z<|zVzMi Z<|z6 ?_
    exact ⟨k + 1, zR4, zR1, ⟨_, (.drop (.drop (.refl _))), rfl⟩, ⟨hk2, take_push hk2 hk3 he (by simpa using cd)⟩, by omega⟩
  ·refine y5<|zSr<|zVzAb Z<|z6<|zk<|zm (x := .bool _) Z ?_
   rw [qm (take_done hl2 (by omega) he)]
theorem equalX_spec {fn : FuncId} {c : List AV} (xs ys : List PInst) (hl : okL xs) (hp : ∀ x ∈ xs, ∀ y, AFun prog E fn ([.agg (encInst x), .agg (encInst y)] ++ c) (.bool (decide (x = y)))) : AFun prog E 114 [.fro 4 (xs.map encInst), .fro 4 (ys.map encInst), .fn fn [] c] (.bool (decide (xs = ys))) := by
 have hl := hl.lt
 refine zt func114 Z (by decide) Z<|zSr<|zVzAb Z<|z6<|ze<|zSr<|zVzMf Z<|zVGvlenM js Z<|zVzMf Z<|zVGvlenM js Z<|zVGvneqI Z Z<|z6<|y3 Z (fun c0=>?_) (fun c0=>?_)
 ·have h : ¬ xs = ys := fun e => by subst e; simp at c0
  refine zSr<|zVzAb Z<|z6<|zk<|zm (x := .bool _) Z ?_
  rw [qn h]
 ·have hl2 : xs.length = ys.length := by simp at c0; omega
  refine zj<|ze<|zSr<|zVzMf Z<|zVGvlenM js Z<|zVzMi Z<|z6<|zi<|y7 (γ := Nat) [1, 2, 15, 16] (fun k => [(17, .int .i64 k)]) (fun k => []) (fun k => k ≤ xs.length ∧ xs.take k = ys.take k) (fun k => xs.length - k) 0 zR1 zLe (⟨qd _, Z⟩) ?_
  rintro k ⟨hk, he⟩
  refine zSr<|zVGvlss Z Z<|z6<|ze<|y2 Z (fun ck=>?_) (fun ck=>?_)
  ·have hk2 : k < xs.length := by omega
   have hk3 : k < ys.length := by omega
   refine zj<|ze<|zi<|zSr<|zVzMi Z<|z8 (yi js jx Z Z Z (qa (by omega)))<|zVGvloadWF Zn jx Z Z<|zo (cs := [.int .i64 0, .int .i64 0, .raw (.slice none 0 0), .int .i64 0]) Zf Z Z<|fun i8 => zVzAi Z<|zh jx Z Z Z Z Z Z .head Z<|z6<|zSr<|zVzMf Z<|zVzMi Z<|z8 (yi js jx Z Z Z (qa (by omega)))<|zVGvloadWF Zn jx Z Z<|zo (cs := [.int .i64 0, .int .i64 0, .raw (.slice none 0 0), .int .i64 0]) Zf Z Z<|fun i9 => zh jx Z Z Z Z Z Z .head Z<|z6<|zSr<|z8 (ye (v := .fn _ _ _) Z)<|z8 (yh Zn jx Z ⟨_, .t1⟩ Z)<|z8 (yh Zn jx Z ⟨_, .head⟩ Z)<|AOps.callVP Z (hp _ (qe _) _) Z<|zVGvnot Z<|z6<|y3 Z (fun cd=>?_) (fun cd=>?_)
   ·refine zSr<|zVzAb Z<|z6<|zk<|zm (x := .bool _) Z ?_
    rw [qn (ne_at hk2 hk3 (by simpa using cd))]
   ·refine zj<|zRg<|zVzAd Z Z<|zVzMi Z<|z6 ?_
    exact ⟨k + 1, zR4, zR1, ⟨_, (.drop (.drop (.refl _))), rfl⟩, ⟨hk2, take_push hk2 hk3 he (by simpa using cd)⟩, by omega⟩
  ·refine y5<|zSr<|zVzAb Z<|z6<|zk<|zm (x := .bool _) Z ?_
   rw [qm (take_done hl2 (by omega) he)]
theorem equalB_spec {fn : FuncId} {c : List AV} (xs ys : List PBlock) (hl : okL xs) (hp : ∀ x ∈ xs, ∀ y, AFun prog E fn ([.agg (encBlk x), .agg (encBlk y)] ++ c) (.bool (decide (x = y)))) : AFun prog E 79 [.fro 7 (xs.map encBlk), .fro 7 (ys.map encBlk), .fn fn [] c] (.bool (decide (xs = ys))) := by
 have hl := hl.lt
 refine zt func79 Z (by decide) Z<|zSr<|zVzAb Z<|z6<|ze<|zSr<|zVzMf Z<|zVGvlenM jc Z<|zVzMf Z<|zVGvlenM jc Z<|zVGvneqI Z Z<|z6<|y3 Z (fun c0=>?_) (fun c0=>?_)
 ·have h : ¬ xs = ys := fun e => by subst e; simp at c0
  refine zSr<|zVzAb Z<|z6<|zk<|zm (x := .bool _) Z ?_
  rw [qn h]
 ·have hl2 : xs.length = ys.length := by simp at c0; omega
  refine zj<|ze<|zSr<|zVzMf Z<|zVGvlenM jc Z<|zVzMi Z<|z6<|zi<|y7 (γ := Nat) [1, 2, 15, 16] (fun k => [(17, .int .i64 k)]) (fun k => []) (fun k => k ≤ xs.length ∧ xs.take k = ys.take k) (fun k => xs.length - k) 0 zR1 zLe (⟨qd _, Z⟩) ?_
  rintro k ⟨hk, he⟩
  refine zSr<|zVGvlss Z Z<|z6<|ze<|y2 Z (fun ck=>?_) (fun ck=>?_)
  ·have hk2 : k < xs.length := by omega
   have hk3 : k < ys.length := by omega
   refine zj<|ze<|zi<|zSr<|zVzMi Z<|z8 (yi jc jm Z Z Z (qa (by omega)))<|zVGvloadWF Ze jm Z Z<|zo (cs := [.str ⟨#[]⟩, .raw (.slice none 0 0), .raw (.slice none 0 0), .int .i64 0, .int .i64 0, .int .i64 0, .int .i64 0]) Z0 Z Z<|fun i8 => zVzAi Z<|zh jm Z Z Z Z Z Z .head Z<|z6<|zSr<|zVzMf Z<|zVzMi Z<|z8 (yi jc jm Z Z Z (qa (by omega)))<|zVGvloadWF Ze jm Z Z<|zo (cs := [.str ⟨#[]⟩, .raw (.slice none 0 0), .raw (.slice none 0 0), .int .i64 0, .int .i64 0, .int .i64 0, .int .i64 0]) Z0 Z Z<|fun i9 => zh jm Z Z Z Z Z Z .head Z<|z6<|zSr<|z8 (ye (v := .fn _ _ _) Z)<|z8 (yh Ze jm Z ⟨_, .t1⟩ Z)<|z8 (yh Ze jm Z ⟨_, .head⟩ Z)<|AOps.callVP Z (hp _ (qe _) _) Z<|zVGvnot Z<|z6<|y3 Z (fun cd=>?_) (fun cd=>?_)
   ·refine zSr<|zVzAb Z<|z6<|zk<|zm (x := .bool _) Z ?_
    rw [qn (ne_at hk2 hk3 (by simpa using cd))]
   ·refine zj<|zRg<|zVzAd Z Z<|zVzMi Z<|z6 ?_
    exact ⟨k + 1, zR4, zR1, ⟨_, (.drop (.drop (.refl _))), rfl⟩, ⟨hk2, take_push hk2 hk3 he (by simpa using cd)⟩, by omega⟩
  ·refine y5<|zSr<|zVzAb Z<|z6<|zk<|zm (x := .bool _) Z ?_
   rw [qm (take_done hl2 (by omega) he)]
theorem samePhi_spec (x y : PPhi) (hx : okPhi x) : AFun prog E 113 [.agg (encPhi x), .agg (encPhi y)] (.bool (decide (x = y))) := by
 obtain ⟨h1, h2⟩ := hx
 rw [phi_iff]
 refine zt func113 Z (by decide) Z<|zSr<|yc (cs := _) Z Z Z<|yc (cs := _) Z Z Z<|zVzAb Z<|z6<|zSr<|zVzFF jj Z j8 Z Z<|zVzLi jl Z<|zVzFF jj Z j8 Z Z<|zVzLi jl Z<|zVGveqlI Z Z<|zVzMb Z<|zy (s := 10) Z (fun c1=>?_) (fun c1=>?_)
 ·refine za Z Z c1<|zVzFF jj Z ji Z Z<|za Z Z c1<|zVzLf jq Z<|za Z Z c1<|zVzFF jj Z ji Z Z<|za Z Z c1<|zVzLf jq Z<|za Z Z c1<|zg (equalI_spec _ _ (by assumption)) Z<|zVzPt Z c1 Z<|zVzMb Z<|zy (s := 17) Z (fun c2=>?_) (fun c2=>?_)
  ·refine za Z Z c2<|zVzFF jj Z ji Z Z<|za Z Z c2<|zVzLf jq Z<|za Z Z c2<|zVzFF jj Z ji Z Z<|za Z Z c2<|zVzLf jq Z<|za Z Z c2<|zg (equalI_spec _ _ (by assumption)) Z<|zVzPt Z c2 Z<|zVzAb Z<|z6<|zk<|zm (x := .bool _) Z ?_
   exact jb (by simp_all)
  ·refine z7 Z Z c2<|z7 Z Z c2<|z7 Z Z c2<|z7 Z Z c2<|z7 Z Z c2<|zVzPf Z c2 Z<|zVzAb Z<|z6<|zk<|zm (x := .bool _) Z ?_
   exact jb (by simp_all)
 ·refine z7 Z Z c1<|z7 Z Z c1<|z7 Z Z c1<|z7 Z Z c1<|z7 Z Z c1<|zVzPf Z c1 Z<|zVzMb Z<|z7 Z Z Z<|z7 Z Z Z<|z7 Z Z Z<|z7 Z Z Z<|z7 Z Z Z<|zVzPf Z Z Z<|zVzAb Z<|z6<|zk<|zm (x := .bool _) Z ?_
  exact jb (by simp_all)
theorem sameInst_spec (x y : PInst) (hx : okL x.args) : AFun prog E 115 [.agg (encInst x), .agg (encInst y)] (.bool (decide (x = y))) := by
 rw [inst_iff]
 refine zt func115 Z (by decide) Z<|zSr<|yc (cs := _) Z Z Z<|yc (cs := _) Z Z Z<|zVzAb Z<|z6<|zSr<|zVzFF jh Z Zo Z Z<|zVzLi Zt Z<|zVzFF jh Z Zo Z Z<|zVzLi Zt Z<|zVGveqlI Z Z<|zVzMb Z<|zy (s := 10) Z (fun c3=>?_) (fun c3=>?_)
 ·refine za Z Z c3<|zVzFF jh Z j8 Z Z<|za Z Z c3<|zVzLi jl Z<|za Z Z c3<|zVzFF jh Z j8 Z Z<|za Z Z c3<|zVzLi jl Z<|za Z Z c3<|zVGveqlI Z Z<|zVzPt Z c3 Z<|zVzMb Z<|zy (s := 17) Z (fun c4=>?_) (fun c4=>?_)
  ·refine za Z Z c4<|zVzFF jh Z Y5 Z Z<|za Z Z c4<|zVzLi Yd Z<|za Z Z c4<|zVzFF jh Z Y5 Z Z<|za Z Z c4<|zVzLi Yd Z<|za Z Z c4<|zVGveqlI Z Z<|zVzPt Z c4 Z<|zVzMb Z<|zy (s := 24) Z (fun c5=>?_) (fun c5=>?_)
   ·refine za Z Z c5<|zVzFF jh Z ji Z Z<|za Z Z c5<|zVzLf jq Z<|za Z Z c5<|zVzFF jh Z ji Z Z<|za Z Z c5<|zVzLf jq Z<|za Z Z c5<|zg (equalI_spec _ _ (by assumption)) Z<|zVzPt Z c5 Z<|zVzAb Z<|z6<|zk<|zm (x := .bool _) Z ?_
    exact jb (by simp_all)
   ·refine z7 Z Z c5<|z7 Z Z c5<|z7 Z Z c5<|z7 Z Z c5<|z7 Z Z c5<|zVzPf Z c5 Z<|zVzAb Z<|z6<|zk<|zm (x := .bool _) Z ?_
    exact jb (by simp_all)
  ·refine z7 Z Z c4<|z7 Z Z c4<|z7 Z Z c4<|z7 Z Z c4<|z7 Z Z c4<|zVzPf Z c4 Z<|zVzMb Z<|z7 Z Z Z<|z7 Z Z Z<|z7 Z Z Z<|z7 Z Z Z<|z7 Z Z Z<|zVzPf Z Z Z<|zVzAb Z<|z6<|zk<|zm (x := .bool _) Z ?_
   exact jb (by simp_all)
 ·refine z7 Z Z c3<|z7 Z Z c3<|z7 Z Z c3<|z7 Z Z c3<|z7 Z Z c3<|zVzPf Z c3 Z<|zVzMb Z<|z7 Z Z Z<|z7 Z Z Z<|z7 Z Z Z<|z7 Z Z Z<|z7 Z Z Z<|zVzPf Z Z Z<|zVzMb Z<|z7 Z Z Z<|z7 Z Z Z<|z7 Z Z Z<|z7 Z Z Z<|z7 Z Z Z<|zVzPf Z Z Z<|zVzAb Z<|z6<|zk<|zm (x := .bool _) Z ?_
  exact jb (by simp_all)
theorem sameBlock_spec (x y : PBlock) (hx : okBlk x) : AFun prog E 80 [.agg (encBlk x), .agg (encBlk y)] (.bool (decide (x = y))) := by
 obtain ⟨h1, h2, h3, h4⟩ := hx
 rw [blk_iff, term_iff]
 refine zt func80 Z (by decide) Z<|zSr<|yc (cs := _) Z Z Z<|yc (cs := _) Z Z Z<|zVzAb Z<|z6<|zSr<|zVzFF j7 Z Z1 Z Z<|z8 (yp (c := .str _) Za Z)<|zVzFF j7 Z Z1 Z Z<|z8 (yp (c := .str _) Za Z)<|z8 (Gv.eqlT Z Z)<|zVzMb Z<|zy (s := 10) Z (fun c6=>?_) (fun c6=>?_)
 ·refine za Z Z c6<|zVzFF j7 Z jv Z Z<|za Z Z c6<|zVGvloadWF Zy jv Z Z<|za Z Z c6<|zVzFF j7 Z jv Z Z<|za Z Z c6<|zVGvloadWF Zy jv Z Z<|za Z Z c6<|z8 (Gv.eqlP (xs := [.int _ _, .int _ _, .int _ _, .int _ _]) (ys := [.int _ _, .int _ _, .int _ _, .int _ _]) (by kernel_rfl) Z Z (fun w => eq_term _ _ _ _ _ _ _ _ w))<|zVzPt Z c6 Z<|zVzMb Z<|zy (s := 17) Z (fun c7=>?_) (fun c7=>?_)
  ·refine za Z Z c7<|zVzFF j7 Z Z6 Z Z<|za Z Z c7<|zVzLf Zk Z<|za Z Z c7<|zVzFF j7 Z Z6 Z Z<|za Z Z c7<|zVzLf Zk Z<|za Z Z c7<|zg (equalP_spec _ _ h1 (fun p hp q => samePhi_spec p q (h3 p hp))) Z<|zVzPt Z c7 Z<|zVzMb Z<|zy (s := 24) Z (fun c8=>?_) (fun c8=>?_)
   ·refine za Z Z c8<|zVzFF j7 Z Z7 Z Z<|za Z Z c8<|zVzLf Zm Z<|za Z Z c8<|zVzFF j7 Z Z7 Z Z<|za Z Z c8<|zVzLf Zm Z<|za Z Z c8<|zg (equalX_spec _ _ h2 (fun p hp q => sameInst_spec p q (h4 p hp))) Z<|zVzPt Z c8 Z<|zVzAb Z<|z6<|zk<|zm (x := .bool _) Z ?_
    exact jb (by simp_all)
   ·refine z7 Z Z c8<|z7 Z Z c8<|z7 Z Z c8<|z7 Z Z c8<|z7 Z Z c8<|zVzPf Z c8 Z<|zVzAb Z<|z6<|zk<|zm (x := .bool _) Z ?_
    exact jb (by simp_all)
  ·refine z7 Z Z c7<|z7 Z Z c7<|z7 Z Z c7<|z7 Z Z c7<|z7 Z Z c7<|zVzPf Z c7 Z<|zVzMb Z<|z7 Z Z Z<|z7 Z Z Z<|z7 Z Z Z<|z7 Z Z Z<|z7 Z Z Z<|zVzPf Z Z Z<|zVzAb Z<|z6<|zk<|zm (x := .bool _) Z ?_
   exact jb (by simp_all)
 ·refine z7 Z Z c6<|z7 Z Z c6<|z7 Z Z c6<|z7 Z Z c6<|z7 Z Z c6<|zVzPf Z c6 Z<|zVzMb Z<|z7 Z Z Z<|z7 Z Z Z<|z7 Z Z Z<|z7 Z Z Z<|z7 Z Z Z<|zVzPf Z Z Z<|zVzMb Z<|z7 Z Z Z<|z7 Z Z Z<|z7 Z Z Z<|z7 Z Z Z<|z7 Z Z Z<|zVzPf Z Z Z<|zVzAb Z<|z6<|zk<|zm (x := .bool _) Z ?_
  exact jb (by simp_all)
theorem same_spec (f g : PFunc) (hf : okFunc f) : AFun prog E 45 [.agg (encF f), .agg (encF g)] (.bool (decide (f = g))) := by
 obtain ⟨h1, h2, h3, h4⟩ := hf
 rw [func_iff]
 refine zt func45 Z (by decide) Z<|zSr<|yc (cs := _) Z Z Z<|yc (cs := _) Z Z Z<|zVzAb Z<|z6<|zSr<|zVzFF jd Z Zb Z Z<|zVzLf Zh Z<|zVzFF jd Z Zb Z Z<|zVzLf Zh Z<|zg (equalV_spec _ _ h1) Z<|zVzMb Z<|zy (s := 10) Z (fun c9=>?_) (fun c9=>?_)
 ·refine za Z Z c9<|zVzFF jd Z ji Z Z<|za Z Z c9<|zVzLf jq Z<|za Z Z c9<|zVzFF jd Z ji Z Z<|za Z Z c9<|zVzLf jq Z<|za Z Z c9<|zg (equalI_spec _ _ (by assumption)) Z<|zVzPt Z c9 Z<|zVzMb Z<|zy (s := 17) Z (fun c10=>?_) (fun c10=>?_)
  ·refine za Z Z c10<|zVzFF jd Z jw Z Z<|za Z Z c10<|zVzLf Z3 Z<|za Z Z c10<|zVzFF jd Z jw Z Z<|za Z Z c10<|zVzLf Z3 Z<|za Z Z c10<|zg (equalB_spec _ _ h3 (fun p hp q => sameBlock_spec p q (h4 p hp))) Z<|zVzPt Z c10 Z<|zVzAb Z<|z6<|zk<|zm (x := .bool _) Z ?_
   exact jb (by simp_all)
  ·refine z7 Z Z c10<|z7 Z Z c10<|z7 Z Z c10<|z7 Z Z c10<|z7 Z Z c10<|zVzPf Z c10 Z<|zVzAb Z<|z6<|zk<|zm (x := .bool _) Z ?_
   exact jb (by simp_all)
 ·refine z7 Z Z c9<|z7 Z Z c9<|z7 Z Z c9<|z7 Z Z c9<|z7 Z Z c9<|zVzPf Z c9 Z<|zVzMb Z<|z7 Z Z Z<|z7 Z Z Z<|z7 Z Z Z<|z7 Z Z Z<|z7 Z Z Z<|zVzPf Z Z Z<|zVzAb Z<|z6<|zk<|zm (x := .bool _) Z ?_
  exact jb (by simp_all)
end Go.Proofs.YtpojdepccecpgaaGreatDoor
namespace Go.Proofs.YtpojdepccecpgaaGreatDoor
open Go.Proofs.Tryz
section
variable {E : World} {P : Program} {env : AEnv} {O : OL} {d ty : Nat} {pos : String} {af : Array Edge} {x y : Operand} {t u e : TypeId}
theorem Gv.rem {k : IntKind} {a b : Int} (hx : aev env x = .int k a) (hy : aev env y = .int k b) (hb : b ≠ 0) : Gv P env O (Oper.mk (some d) (.binOp .rem t x y u) ty pos af none) (.int k (a.tmod b)) := q8 fun I ρ h => ⟨_, rfl, fun w => by
 rw [run_bin_int (evI h hx) (evI h hy) (by decide) (by decide)]; simp [binOp, Op.intDiv, hb]⟩
theorem Gv.quo {k : IntKind} {a b : Int} (hx : aev env x = .int k a) (hy : aev env y = .int k b) (hb : b ≠ 0) : Gv P env O (Oper.mk (some d) (.binOp .quo t x y u) ty pos af none) (.int k (k.wrap (a.tdiv b))) := q8 fun I ρ h => ⟨_, rfl, fun w => by
 rw [run_bin_int (evI h hx) (evI h hy) (by decide) (by decide)]; simp [binOp, Op.intDiv, hb]⟩
theorem Gv.conv {k k' : IntKind} {a : Int} {ds : TypeDesc} {src dst : TypeId} (hs : P.underlying src = some ds) (hd : P.underlying dst = some (.int k')) (hx : aev env x = .int k a) : Gv P env O (Oper.mk (some d) (.convert src dst x) ty pos af none) (.int k' (k'.wrap a)) := q8 fun I ρ h => ⟨_, rfl, fun w => by
 simp only [execOp, evI h hx]
 cases ds <;> simp [convert, run_underlying hs, run_underlying hd, Conv.intToInt]⟩
def encU (n : Int) : List AV := [.int .u8 n]
theorem Gv.convBytes {ns : List Int} {src dst e : TypeId} (hs : P.underlying src = some (.slice e)) (he : P.underlying e = some (.int .u8)) (hd : P.underlying dst = some .string) (hx : aev env x = .fro 1 (ns.map encU)) :
  Gv P env O (Oper.mk (some d) (.convert src dst x) ty pos af none) (.str (strOfNums ns)) := fun I L E ρ h1 _ => by
 have h2 := h1.ev x
 rw [hx] at h2
 obtain ⟨a, n, c, e1, hn, hnc, hnil, hr⟩ := h2
 rw [qh] at hn
 refine ⟨_, Z, fun w J L' hl hS _ => ?_⟩
 simp only [execOp, e1]
 cases a with
 | none =>
  have hc := hnil rfl
  have : ns = [] := List.eq_nil_of_length_eq_zero (by omega)
  subst this
  have := run_convert_bytes_nil (P := P) w src e hs he n c dst hd
  rw [Sem.run_bind, this]; rfl
 | some p =>
  cases ns with
  | nil =>
   simp at hn; subst hn
   have h := run_convert_bytes_string (P := P) w src dst e (some p) 0 c hs he hd
   have h2 := run_bytesToString (P := P) w p 0 c [] (by simp [loadCells, loadCellsFrom])
   rw [Sem.run_bind, h, h2]; rfl
  | cons m ms =>
   obtain ⟨b, off, _, ep, _⟩ := hr.get (j := 0) (r := encU m) rfl
   cases ep
   have := run_convert_bytes_arg (P := P) w src e hs he b off n c (m :: ms) hn.symm (fun i hi => by
    obtain ⟨b', off', l, ep, hk, hl2, hat⟩ := hr.get (j := i) (r := encU ((m :: ms).getD i 0)) (by
     rw [qi, qa (by omega)]
     simp [List.getD_eq_getElem?_getD, qa (show i < (m :: ms).length by omega)])
    cases ep
    obtain ⟨v, us, rfl, hv, _⟩ := hl2
    have hv : v = .int .u8 ((m :: ms).getD i 0) := hv
    subst hv
    have := hS.at_ (((hat 0 _ rfl).mono hl).at_ _)
    simpa using this) dst hd
   rw [Sem.run_bind, this]; rfl
end
end Go.Proofs.YtpojdepccecpgaaGreatDoor
namespace Go.Proofs.YtpojdepccecpgaaGreatDoor
open Go.Proofs.Tryz
section
variable {E : World} {P : Program} {n : Nat} {l : List Oper} {W : Nat → Bool} {Q : AEnv → OL → Prop} {fuel : Nat} {listed : Array Bool} {env : AEnv} {O Os Om : OL}
theorem AAny.two {i j : Nat} {o o' : Oper} (hi : l[i]? = some o) (hj : l[j]? = some o') (hr : Region.ready .any l.toArray listed = [i, j])
  (h : AOps P E l.toArray (fun env' Om' => AAny P E l W Q fuel (listed.setIfInBounds i true) env' Os Om') [o] env Om)
  (h' : AOps P E l.toArray (fun env' Om' => AAny P E l W Q fuel (listed.setIfInBounds j true) env' Os Om') [o'] env Om) : AAny P E l W Q (fuel + 1) listed env Os Om := fun I F ρ w Ls h1 hLs h2 => by
 have key : ∀ k ok, AOps P E l.toArray (fun env' Om' => AAny P E l W Q fuel (listed.setIfInBounds k true) env' Os Om') [ok] env Om →
   Ops P l.toArray (fun ρ' w' => (stays I.k [] E w' ∧ (dirty W (listed.setIfInBounds k true) ∨ stays I.k Ls E w')) ∧ AnyV P l.toArray (stays I.k [] E) (stays I.k Ls E) W (postK I F E Q) fuel (listed.setIfInBounds k true) ρ' w') [ok] ρ w := fun k ok h =>
  yu (fun ρ' w' ⟨J, env', Om', a, b, c, d⟩ => by
   have hst : stays I.k Ls E w' := by
    obtain ⟨J', L', h3, h4, h5⟩ := c.here
    exact ⟨J', L', a.k.trans h3, h4, h5⟩
   refine ⟨⟨hst.less, .inr hst⟩, AnyV.mono ?_ ?_ (fun _ _ => yz a) _ _ _ _ (d J F ρ' w' Ls b (hLs.mono a) c)⟩
   ·rintro w ⟨J', L', h3, h4⟩; exact ⟨J', L', a.k.trans h3, h4⟩
   ·rintro w ⟨J', L', h3, h4⟩; exact ⟨J', L', a.k.trans h3, h4⟩) _ _ _ (h I (Ls ++ F) ρ w h1 h2)
 refine ⟨fun h0 => (by rw [hr] at h0; cases h0), fun k hk o2 ho2 => ?_⟩
 rw [hr] at hk
 simp only [List.mem_cons, List.not_mem_nil, or_false] at hk
 rw [List.getElem?_toArray] at ho2
 rcases hk with rfl | rfl
 ·rw [hi] at ho2; cases ho2; exact key _ _ h
 ·rw [hj] at ho2; cases ho2; exact key _ _ h'
end
end Go.Proofs.YtpojdepccecpgaaGreatDoor
namespace Go.Proofs.YtpojdepccecpgaaGreatDoor
open Go.Proofs.Tryz
section
variable {E : World} {P : Program} {n : Nat} {l : List Oper} {W : Nat → Bool} {Q : AEnv → OL → Prop} {fuel : Nat} {listed : Array Bool} {env : AEnv} {O Os Om : OL}
theorem AAny.three {i j m : Nat} {o o' o'' : Oper} (hi : l[i]? = some o) (hj : l[j]? = some o') (hm : l[m]? = some o'') (hr : Region.ready .any l.toArray listed = [i, j, m])
  (h : AOps P E l.toArray (fun env' Om' => AAny P E l W Q fuel (listed.setIfInBounds i true) env' Os Om') [o] env Om)
  (h' : AOps P E l.toArray (fun env' Om' => AAny P E l W Q fuel (listed.setIfInBounds j true) env' Os Om') [o'] env Om)
  (h'' : AOps P E l.toArray (fun env' Om' => AAny P E l W Q fuel (listed.setIfInBounds m true) env' Os Om') [o''] env Om) : AAny P E l W Q (fuel + 1) listed env Os Om := fun I F ρ w Ls h1 hLs h2 => by
 have key : ∀ k ok, AOps P E l.toArray (fun env' Om' => AAny P E l W Q fuel (listed.setIfInBounds k true) env' Os Om') [ok] env Om →
   Ops P l.toArray (fun ρ' w' => (stays I.k [] E w' ∧ (dirty W (listed.setIfInBounds k true) ∨ stays I.k Ls E w')) ∧ AnyV P l.toArray (stays I.k [] E) (stays I.k Ls E) W (postK I F E Q) fuel (listed.setIfInBounds k true) ρ' w') [ok] ρ w := fun k ok h =>
  yu (fun ρ' w' ⟨J, env', Om', a, b, c, d⟩ => by
   have hst : stays I.k Ls E w' := by
    obtain ⟨J', L', h3, h4, h5⟩ := c.here
    exact ⟨J', L', a.k.trans h3, h4, h5⟩
   refine ⟨⟨hst.less, .inr hst⟩, AnyV.mono ?_ ?_ (fun _ _ => yz a) _ _ _ _ (d J F ρ' w' Ls b (hLs.mono a) c)⟩
   ·rintro w ⟨J', L', h3, h4⟩; exact ⟨J', L', a.k.trans h3, h4⟩
   ·rintro w ⟨J', L', h3, h4⟩; exact ⟨J', L', a.k.trans h3, h4⟩) _ _ _ (h I (Ls ++ F) ρ w h1 h2)
 refine ⟨fun h0 => (by rw [hr] at h0; cases h0), fun k hk o2 ho2 => ?_⟩
 rw [hr] at hk
 simp only [List.mem_cons, List.not_mem_nil, or_false] at hk
 rw [List.getElem?_toArray] at ho2
 rcases hk with rfl | rfl | rfl
 ·rw [hi] at ho2; cases ho2; exact key _ _ h
 ·rw [hj] at ho2; cases ho2; exact key _ _ h'
 ·rw [hm] at ho2; cases ho2; exact key _ _ h''
end
theorem ACall.know {E : World} {P : Program} {f : FuncId} {as0 : List AV} {O : OL} {R R' : AV → OL → Prop} (h : ACall P E f as0 O R) (hr : ∀ I F w v x O', R x O' → RepV I x v → SLA I O' F E w → ∃ J y O'', I.le J ∧ RepV J y v ∧ SLA J O'' F E w ∧ R' y O'') : ACall P E f as0 O R' := fun I F w vs h1 h2 =>
 (h I F w vs h1 h2).mono fun v w' ⟨J, x, O', a, b, c, d⟩ => by
  obtain ⟨K, y, O'', e1, e2, e3, e4⟩ := hr J F w' v x O' d b c
  exact ⟨K, y, O'', a.trans e1, e2, e3, e4⟩
theorem Put.has {O O' : OL} {i : Nat} {o o' : AObj} (h : Put O i o o' O') : Has O i o := by
 induction h with
 | head => exact .head
 | tail _ ih => exact ih.tail
end Go.Proofs.YtpojdepccecpgaaGreatDoor
namespace Go.Proofs.YtpojdepccecpgaaGreatDoor
open Go.Proofs.Tryz
theorem Pick.perm {O O' : OL} {i : Nat} {o : AObj} (h : Pick O i o O') : O.Perm ((i, o) :: O') := by
 induction h with
 | head => exact .refl _
 | tail _ ih => exact (ih.cons _).trans (.swap _ _ _)
section
variable {E : World} {P : Program} {f : FuncId} {as0 : List AV} {O : OL}
theorem ACall.exact {γ : Type} {x : γ → AV} {M : γ → OL} {p : γ → Prop} (h : ACall P E f as0 O (fun y O' => ∃ g, y = x g ∧ Left O' (M g) ∧ p g)) : ACall P E f as0 O (fun y O' => ∃ g, y = x g ∧ O' = M g ∧ p g) :=
 h.know fun I F w v y O' ⟨g, e, hl, hp⟩ h1 h2 => ⟨I, y, M g, .refl _, h1, hl.sla h2, g, e, rfl, hp⟩
theorem ACall.frozen {k m : Nat} {T : TypeId} {rows : List (List AV)} (h : ACall P E f as0 [] (fun y O' => ∃ i : Nat, y = .own i m ∧ Left O' [(i, .grow k T rows.flatten)] ∧ True)) (hk : ∀ r ∈ rows, r.length = k) (hk0 : 0 < k) (hm : rows.length = m) : AFun P E f as0 (.fro k rows) :=
 h.know fun I F w v y O' ⟨i, e, hl, _⟩ h1 h2 => by
  subst e
  obtain ⟨J, h3, h4, h5⟩ := Go.Proofs.YtpojdepccecpgaaGreatDoor.know .head hk hk0 hm (hl.sla h2)
  exact ⟨J, _, [], h3, h5 _ h1, h4, rfl⟩
end
end Go.Proofs.YtpojdepccecpgaaGreatDoor
namespace Go.Proofs.YtpojdepccecpgaaGreatDoor
open Go.Proofs.Tryz
open Go.ChangeShapes Go.WideShapes Go.ChangeAt Go.RowKit Go.Deep
def full (W : World) : Ghost := fun b => W.heap[b]?
theorem full_sl (W : World) : SL (full W) [] W W := ⟨rfl, rfl, rfl, fun _ _ h => h, by simp, by simp, by simp, fun _ _ h => h, (fun _ _ h h2 => by rw [show W.heap[_]? = some _ from h] at h2; cases h2), by simp⟩
def I0 (W : World) : G := ⟨full W, fun _ => none⟩
theorem cell_known {W : World} {p : Addr} {v : Value} (h : W.cell? p = some v) : p = ⟨p.block, p.off, none⟩ ∧ KAt (full W) p.block p.off v := by
 unfold World.cell? at h
 split at h
 ·rename_i c t f hb
  split at h
  ·cases h
  ·rename_i hs
   have : p.spot = none := by simpa using hs
   obtain ⟨b, o, s⟩ := p
   simp only at this
   subst this
   exact ⟨rfl, ⟨c, t, f, hb, h⟩⟩
 ·cases h
def Dec (P : Program) (W : World) (T : TypeId) {α : Type} (enc : α → List AV) (ok : α → Prop) : Prop :=
 ∀ {H : Type} (e : TypeId × Value → H) (held : Bool) (fuel : Nat) (cs : List Value) (x : DataW H × List MemPlace), DataW.trod e P W 0 (fun _ => true) held fuel T cs = some x → ∃ a, ok a ∧ RepL (I0 W) (enc a) cs
section
variable {P : Program} {W : World} {T e : TypeId}
theorem Dec.int {k : IntKind} (hu : P.underlying T = some (.int k)) : Dec P W T (fun x : Int => [.int k x]) (fun x => (Lit.int k x).wf = true) := fun _ _ _ _ _ h => by
 obtain ⟨n, rfl, _, hw⟩ := DataW.trod_int hu h
 exact ⟨n, hw, _, _, rfl, rfl, rfl⟩
theorem Dec.bool (hu : P.underlying T = some .bool) : Dec P W T (fun x : Bool => [.bool x]) (fun _ => True) := fun _ _ _ _ _ h => by
 obtain ⟨n, rfl, _⟩ := DataW.trod_bool hu h
 exact ⟨n, trivial, _, _, rfl, rfl, rfl⟩
theorem Dec.str (hu : P.underlying T = some .string) : Dec P W T (fun x : ByteArray => [.str x]) (fun x => x.size ≤ maxLen) := fun _ _ _ _ _ h => by
 obtain ⟨n, rfl, _, hw⟩ := DataW.trod_string hu h
 exact ⟨n, hw, _, _, rfl, rfl, rfl⟩
theorem Dec.slice {α : Type} {enc : α → List AV} {ok : α → Prop} {k : Nat} (ht : P.underlying T = some (.slice e)) (he : Dec P W e enc ok) (hk : P.cellsOf e = k) (hk0 : 0 < k) :
  Dec P W T (fun xs : List α => [.fro k (xs.map enc)]) (fun xs => (∀ x ∈ xs, ok x) ∧ xs.length ≤ maxLen) := fun en held fuel cs x h => by
 rcases open_slice ht h with ⟨rfl, _⟩ | ⟨a, len, cap, m, n, D, Pl, rfl, _, hl, hc, hm, _, hr⟩
 ·exact ⟨[], ⟨by simp, qd _⟩, _, _, rfl, ⟨none, 0, 0, rfl, rfl, Nat.le_refl _, fun _ => rfl, trivial⟩, rfl⟩
 ·simp only [if_true] at hm
  have each : ∀ i, i < len → ∃ y : α, ok y ∧ ∃ vs : List Value, vs.length = k ∧ RepL (I0 W) (enc y) vs ∧ ∀ j (u : Value), vs[j]? = some u → W.cell? (a.add (i * k + j)) = some u := by
   intro i hi
   obtain ⟨cs, h1, h2⟩ := hr i (by omega)
   rw [hk] at h1
   obtain ⟨_, hcl, hat⟩ := World.cells?_some h1
   obtain ⟨y, hy, hrep⟩ := he en held n cs _ h2
   refine ⟨y, hy, cs, hcl, hrep, fun j u hu => ?_⟩
   have hj : j < k := by have := (List.getElem?_eq_some_iff.1 hu).1; omega
   have := hat j hj
   rw [Go.Deep.add_add] at this
   rw [this, hu]
  by_cases h0 : len = 0
  ·subst h0
   exact ⟨[], ⟨by simp, qd _⟩, _, _, rfl, ⟨some a, 0, cap, rfl, rfl, qd _, fun h => by (cases h), trivial⟩, rfl⟩
  ·obtain ⟨y0, _⟩ := each 0 (by omega)
   have : Inhabited α := ⟨y0⟩
   obtain ⟨Y, hY⟩ := choose_lt each
   have ha : a = ⟨a.block, a.off, none⟩ := by
    obtain ⟨_, vs, hvl, _, hat⟩ := hY 0 (by omega)
    have := hat 0 _ (qa (show 0 < vs.length by omega))
    rw [Nat.zero_mul] at this
    exact (cell_known (by simpa [Addr.add] using this)).1
   refine ⟨(List.range len).map Y, ⟨?_, by simp; omega⟩, _, _, Z, ⟨some a, len, cap, Z, by simp, hl, fun h => by (cases h), RepR.intro fun j r hj => ?_⟩, Z⟩
   ·intro x hx
    obtain ⟨i, hi, rfl⟩ := List.mem_map.1 hx
    exact (hY i (by simpa using hi)).1
   ·rw [qi, qi] at hj
    have hjl : j < len := by
     rcases Nat.lt_or_ge j len with h | h
     ·exact h
     ·rw [List.getElem?_eq_none (by simpa using h)] at hj; cases hj
    rw [List.getElem?_range hjl] at hj
    simp only [Option.map_some, Option.some.injEq] at hj
    subst hj
    obtain ⟨_, vs, hvl, hrep, hat⟩ := hY j hjl
    refine ⟨a.block, a.off, vs, by rw [← ha], hvl, hrep, fun i u hu => ?_⟩
    have := hat i u hu
    rw [ha, addr_add] at this
    have := (cell_known this).2
    rw [Nat.zero_add, Nat.add_assoc]; exact this
theorem RepL.fld {I : G} {cs : List Value} {e es : List AV} {o k : Nat} (h1 : RepL I e ((cs.drop o).take k)) (h2 : RepL I es (cs.drop (o + k))) : RepL I (e ++ es) (cs.drop o) := by
 have := h1.append h2
 rwa [← List.drop_drop, List.take_append_drop] at this
theorem RepL.fin {I : G} {cs : List Value} {o : Nat} (h : cs.length = o) : RepL I [] (cs.drop o) := List.drop_eq_nil_of_le (by omega)
theorem Dec.at {α : Type} {enc : α → List AV} {ok : α → Prop} {f : Field} {H : Type} {en : TypeId × Value → H} {held : Bool} {n o k i : Nat} {cs : List Value} {xs : List (DataW H × List MemPlace)}
  (h1 : DataW.trod en P W 0 (fun _ => true) held n f.type ((cs.drop f.offset).take (P.cellsOf f.type)) = xs[i]?) (hd : Dec P W f.type enc ok) (h2 : i < xs.length) (ho : f.offset = o) (hk : P.cellsOf f.type = k) :
  ∃ a, ok a ∧ RepL (I0 W) (enc a) ((cs.drop o).take k) := by
 rw [qa h2, ho, hk] at h1
 exact hd en held n _ _ h1
theorem Dec.pair {α : Type} {enc : α → List AV} {ok : α → Prop} {k : Nat} (ht : P.underlying T = some (.array 2 e)) (he : Dec P W e enc ok) (hk : P.cellsOf e = k) (hT : P.cellsOf T = k + k) :
  Dec P W T (fun x : α × α => enc x.1 ++ enc x.2) (fun x => ok x.1 ∧ ok x.2) := fun en held fuel cs x h => by
 obtain ⟨xs, m, _, _, hl, hxl, hf⟩ := DataW.trod_array ht h
 have h0 := hf 0 (by omega)
 have h1 := hf 1 (by omega)
 rw [qa (by omega), hk] at h0 h1
 rw [Nat.zero_mul] at h0
 rw [Nat.one_mul] at h1
 obtain ⟨a, ha, ra⟩ := he en held m _ _ h0
 obtain ⟨b, hb, rb⟩ := he en held m _ _ h1
 refine ⟨(a, b), ⟨ha, hb⟩, ?_⟩
 have hcl : cs.length = k + k := by rw [hl, hT]
 have h2 : (cs.drop k).take k = cs.drop k := List.take_of_length_le (by rw [List.length_drop]; omega)
 rw [h2] at rb
 have := ra.append rb
 rw [List.drop_zero, List.take_append_drop] at this
 exact this
theorem Dec.map {α β : Type} {enc : α → List AV} {ok : α → Prop} {enc' : β → List AV} {ok' : β → Prop} (h : Dec P W T enc ok) (g : α → β) (he : ∀ a, enc' (g a) = enc a) (hk : ∀ a, ok a → ok' (g a)) : Dec P W T enc' ok' := fun en held fuel cs x hx => by
 obtain ⟨a, h1, h2⟩ := h en held fuel cs x hx
 exact ⟨g a, hk a h1, by rw [he]; exact h2⟩
end
theorem tabIs_of_reads {P : Program} {W : World} {name : String} {k : IntKind} {zs : List Int} {g : Nat} {t e : TypeId} {n : Nat}
  (hg : P.globalNamed name = some g) (hty : (P.globals[g]?).map (·.type) = some t) (ht : P.underlying t = some (.array n e)) (he : P.underlying e = some (.int k)) (hce : P.cellsOf e = 1) (hct : P.cellsOf t = n)
  (h : Lib.VarReads P W name (Lib.tabData k zs)) : Lib.TabIs P W name k zs := by
 obtain ⟨g', t', cs, fuel, p, hg', ht', hvar, hd⟩ := h
 obtain rfl := Option.some.inj (hg.symm.trans hg')
 obtain rfl := Option.some.inj (hty.symm.trans ht')
 unfold Lib.TabIs
 rw [hvar, ← Lib.cells_of_tab ht he hce hct hd]
theorem AFun.call {P : Program} {W : World} {f : FuncId} {us : List AV} {vs : List Value} {r : AV} (h : AFun P W f us r) (hr : RepL (I0 W) us vs) (hp : r.plain = true) : Calls P f vs.toArray W fun e w' => ∃ v, e = .returned v ∧ RepV (I0 W) r v ∧ Below W.heap.size W w' := by
 have := (h (I0 W) [] W vs hr ⟨⟨0, fun _ _ => rfl⟩, [], rfl, full_sl W⟩).2
 refine this.mono fun e w' ⟨v, he, J, x, O', hle, hx, hS, hxr⟩ => ⟨v, he, ?_, ?_⟩
 ·subst hxr; exact AV.plain_rep hp hx
 ·obtain ⟨_, L, _, hSL⟩ := hS
  exact hSL.belowE
end Go.Proofs.YtpojdepccecpgaaGreatDoor
namespace Go.Proofs.YtpojdepccecpgaaGreatDoor
open Go.Proofs.Tryz
def gdiff (J : Ghost) (E : World) : Ghost := fun b => match E.heap[b]? with
 | none => J b
 | some _ => none
theorem gdiff_some {J : Ghost} {E : World} {b : Nat} {o : Obj} (h : gdiff J E b = some o) : E.heap[b]? = none ∧ J b = some o := by
 unfold gdiff at h
 cases hE : E.heap[b]? with
 | none => rw [hE] at h; exact ⟨rfl, h⟩
 | some x => rw [hE] at h; cases h
theorem gdiff_le {I J : Ghost} (E : World) (h : I.le J) : (gdiff I E).le (gdiff J E) := fun b o hb => by
 obtain ⟨h1, h2⟩ := gdiff_some hb
 unfold gdiff
 rw [h1]; exact h _ _ h2
def GD (J : Ghost) (E : World) : G := ⟨gdiff J E, fun _ => none⟩
theorem GD.le {I J : Ghost} (E : World) (h : I.le J) : (GD I E).le (GD J E) := ⟨gdiff_le E h, fun _ _ h => by cases h⟩
def newv (E : World) (x : AV) : AV := .ext fun J v => RepV (GD J E) x v
theorem newv_rep {I : G} {E : World} {x : AV} {v : Value} (h : RepV I (newv E x) v) : RepV (GD I.k E) x v := h.2 _ (.refl _)
def Up (E : World) (xs ys : List AV) : Prop := ∀ (I : G) vs, RepL I xs vs → RepL (GD I.k E) ys vs
theorem Up.nil {E : World} : Up E [] [] := fun _ _ h => h
theorem Up.int {E : World} {k : IntKind} {n : Int} {xs ys : List AV} (h : Up E xs ys) : Up E (.int k n :: xs) (.int k n :: ys) := fun I _ ⟨v, us, e, h1, h2⟩ => ⟨v, us, e, h1, h I us h2⟩
theorem Up.str {E : World} {s : ByteArray} {xs ys : List AV} (h : Up E xs ys) : Up E (.str s :: xs) (.str s :: ys) := fun I _ ⟨v, us, e, h1, h2⟩ => ⟨v, us, e, h1, h I us h2⟩
theorem Up.new {E : World} {x : AV} {xs ys : List AV} (h : Up E xs ys) : Up E (newv E x :: xs) (x :: ys) := fun I _ ⟨v, us, e, h1, h2⟩ => ⟨v, us, e, newv_rep h1, h I us h2⟩
theorem Up.append {E : World} {a b c d : List AV} (h1 : Up E a c) (h2 : Up E b d) : Up E (a ++ b) (c ++ d) := fun I vs h => by
 have e1 := h.take a.length
 have e2 := h.drop a.length
 rw [List.take_left] at e1
 rw [List.drop_left] at e2
 have := (h1 I _ e1).append (h2 I _ e2)
 rwa [List.take_append_drop] at this
theorem Up.map {E : World} {α : Type} {enc enc' : α → List AV} (h : ∀ x, Up E (enc x) (enc' x)) : ∀ l : List α, Up E (l.map enc).flatten (l.map enc').flatten
 | [] => Up.nil
 | x :: l => by simpa using (h x).append (Up.map h l)
section
variable {E : World} {P : Program} {n : Nat} {env : AEnv} {O O' O'' : OL} {i k m : Nat} {T : TypeId} {rows rows' : List (List AV)}
end
section
variable {E : World} {P : Program} {f : FuncId} {us bs : List AV} {r : AV}
theorem RepL.imp {I J : G} {g h : AV → AV} (hi : ∀ c v, RepV I (g c) v → RepV J (h c) v) : ∀ (cs : List AV) (vs : List Value), RepL I (cs.map g) vs → RepL J (cs.map h) vs
 | [], _, e => e
 | _ :: cs, _, ⟨v, us, e, h1, h2⟩ => ⟨v, us, e, hi _ _ h1, RepL.imp hi cs us h2⟩
end
def TurnV (B : Nat) : Value → Value → Prop
 | .int k _, v' => ∃ n, v' = .int k n
 | .string s, v' => ∃ s', v' = .string s' ∧ s'.size ≤ s.size + B
 | v, v' => v' = v
def TurnO (B : Nat) : Obj → Obj → Prop
 | .cells c T _, o' => ∃ c' : Array Value, o' = .cells c' T (0, 0) ∧ c'.size = c.size ∧ ∀ (i : Nat) v, c[i]? = some v → ∃ v', c'[i]? = some v' ∧ TurnV B v v'
 | o, o' => o' = o
def Turned (B : Nat) : List (Nat × Obj) → List (Nat × Obj) → Prop
 | [], L' => L' = []
 | (b, o) :: L, L' => ∃ o' R, L' = (b, o') :: R ∧ TurnO B o o' ∧ Turned B L R
theorem TurnV.refl (B : Nat) (v : Value) : TurnV B v v := by
 cases v <;> first | exact rfl | exact ⟨_, rfl⟩ | exact ⟨_, rfl, Nat.le_add_right _ _⟩
theorem TurnV.more {B B' : Nat} (h : B ≤ B') {v v' : Value} (hv : TurnV B v v') : TurnV B' v v' := by
 cases v <;> first | exact hv | (obtain ⟨s', e, hs⟩ := hv; exact ⟨s', e, by omega⟩)
theorem TurnO.more {B B' : Nat} (h : B ≤ B') {v v' : Obj} (hv : TurnO B v v') : TurnO B' v v' := by
 cases v <;> first | exact hv | (obtain ⟨s', e, hs, h2⟩ := hv; exact ⟨s', e, hs, fun i v hi => let ⟨v', a, b⟩ := h2 i v hi; ⟨v', a, b.more h⟩⟩)
theorem Turned.more {B B' : Nat} (h : B ≤ B') : ∀ {L L' : List (Nat × Obj)}, Turned B L L' → Turned B' L L'
 | [], _, e => e
 | _ :: _, _, ⟨o', R, e, h1, h2⟩ => ⟨o', R, e, h1.more h, Turned.more h h2⟩
theorem Turned.refl (B : Nat) : ∀ {L : List (Nat × Obj)}, (∀ y ∈ L, flatO y.2) → Turned B L L
 | [], _ => rfl
 | (b, o) :: L, h => ⟨o, L, rfl, by
   have := h (b, o) (.head _)
   cases o <;> first | exact rfl | (have this : _ = (0, 0) := this; subst this; exact ⟨_, rfl, rfl, fun i v hv => ⟨v, hv, .refl _ _⟩⟩), Turned.refl B fun y hy => h y (.tail _ hy)⟩
theorem Turned.at {B : Nat} {b : Nat} {c : Array Value} {T : TypeId} {fz : Nat × Nat} : ∀ {L L' : List (Nat × Obj)}, Turned B L L' → L.lookup b = some (.cells c T fz) →
  ∃ c' X Y, L' = X ++ (b, .cells c' T (0, 0)) :: Y ∧ c'.size = c.size ∧ (∀ (i : Nat) v, c[i]? = some v → ∃ v', c'[i]? = some v' ∧ TurnV B v v') ∧
   ∀ B' (c'' : Array Value), B ≤ B' → c''.size = c.size → (∀ (i : Nat) v, c[i]? = some v → ∃ v', c''[i]? = some v' ∧ TurnV B' v v') → Turned B' L (X ++ (b, .cells c'' T (0, 0)) :: Y)
 | [], _, _, h => by cases h
 | (a, o) :: L, L', ⟨o', R, e, h1, h2⟩, h => by
  rw [List.lookup_cons] at h
  cases hb : b == a with
  | true =>
   rw [hb] at h
   cases h
   have hba : b = a := by simpa using hb
   subst hba
   obtain ⟨c', rfl, hs, hc⟩ := h1
   exact ⟨c', [], R, e, hs, hc, fun B' c'' hB hs' hc' => ⟨_, R, rfl, ⟨c'', rfl, hs', hc'⟩, h2.more hB⟩⟩
  | false =>
   rw [hb] at h
   obtain ⟨c', X, Y, rfl, hs, hc, hk⟩ := Turned.at h2 h
   exact ⟨c', (a, o') :: X, Y, e, hs, hc, fun B' c'' hB hs' hc' => ⟨o', _, rfl, h1.more hB, hk B' c'' hB hs' hc'⟩⟩
section
variable {E : World} {P : Program} {n : Nat} {ops : Array Oper} {K : AEnv → OL → Prop} {env : AEnv} {O O' : OL} {rest : List Oper}
variable {d ty : Nat} {pos : String} {af : Array Edge} {t e : TypeId} {x y : Operand} {L : List (Nat × Obj)}
theorem GStep.turn (hP : Put O 0 (.heap (fun L' => L' = L)) (.heap (Turned 0 L)) O') : GStep E env O env O' := fun I F ρ w h1 ⟨ht, L0, hL, hS⟩ => by
 obtain ⟨A, B, hp, hA, hback⟩ := hP.rep hL
 have hA : A = L := hA
 subst hA
 obtain ⟨L', h3, h4⟩ := hback (G.le.refl I) (A' := A) (Turned.refl 0 fun y hy => hS.oflat y (List.mem_append_left _ (hp.mem_iff.2 (List.mem_append_left _ hy))))
 exact ⟨I, .refl _, h1, ht, L', h3, hS.perm ((h4.trans hp.symm).append_right F)⟩
end
end Go.Proofs.YtpojdepccecpgaaGreatDoor
namespace Go.Proofs.YtpojdepccecpgaaGreatDoor
open Go.Proofs.Tryz
section
variable {E : World} {P : Program} {n : Nat} {ops : Array Oper} {K : AEnv → OL → Prop} {env : AEnv} {O O' : OL} {rest : List Oper}
variable {d ty : Nat} {pos : String} {af : Array Edge} {t e : TypeId} {x y : Operand}
theorem RepR.drop {I : G} {k n c j : Nat} {a : Option Addr} {rows : List (List AV)} (hn : n = rows.length) (hnc : n ≤ c) (hr : RepR I k a 0 rows) : RepR I k (if c = j then a else a.map (·.add (j * k))) 0 (rows.drop j) :=
 RepR.intro fun j' r hj => by
  rw [List.getElem?_drop] at hj
  have hlt := (List.getElem?_eq_some_iff.1 hj).1
  obtain ⟨b, off, vs, rfl, h4, h5, h6⟩ := hr.get hj
  rw [if_neg (by omega)]
  refine ⟨b, off + j * k, vs, by simp [Addr.add], h4, h5, fun i u hu => ?_⟩
  have := h6 i u hu
  rw [Nat.zero_add, Nat.add_mul] at this
  rw [Nat.zero_add]
  rwa [← Nat.add_assoc] at this
theorem RepR.take {I : G} {k j : Nat} {a : Option Addr} {rows : List (List AV)} (hr : RepR I k a 0 rows) : RepR I k a 0 (rows.take j) :=
 RepR.intro fun j' r hj => by
  rw [List.getElem?_take] at hj
  split at hj
  ·exact hr.get hj
  ·cases hj
theorem Gv.cutLo {k j : Nat} {a : Int} {rows : List (List AV)} (ht : P.underlying t = some (.slice e)) (hs : ∀ w, (sizeOf e).run P w = .ok k w) (hx : aev env x = .fro k rows) (hy : aev env y = .int .i64 a) (hi : a = (j : Int)) (hj : j ≤ rows.length) :
  Gv P env O (Oper.mk (some d) (.slice t x (some y) none none) ty pos af none) (.fro k (rows.drop j)) := q8 fun I ρ h => by
 have h2 := h.ev x
 rw [hx] at h2
 obtain ⟨p, n, c, ex, hn, hnc, hnil, hr⟩ := h2
 have h3 := evI h hy
 subst hi
 refine ⟨.slice (if c = j then p else p.map (·.add (j * k))) (n - j) (c - j), ⟨_, _, _, Z, by rw [List.length_drop, hn], by omega, fun hp=>?_, hr.drop hn hnc⟩, fun w=>?_⟩
 ·split at hp
  ·omega
  ·cases p with
   | none => have := hnil rfl; omega
   | some q => cases hp
 ·have hjn : j ≤ n := by omega
  simp [execOp, Instr.sliceAt, Instr.slice, Instr.sliceBounds, Instr.sliceBound, asIntOf, Sem.run_bind, run_underlying ht, hs, ex, h3, hjn]
theorem Gv.cutLoM {α : Type} {enc : α → List AV} {xs : List α} {k j : Nat} {a : Int} (ht : P.underlying t = some (.slice e)) (hs : ∀ w, (sizeOf e).run P w = .ok k w) (hx : aev env x = .fro k (xs.map enc)) (hy : aev env y = .int .i64 a) (hi : a = (j : Int)) (hj : j ≤ xs.length) :
  Gv P env O (Oper.mk (some d) (.slice t x (some y) none none) ty pos af none) (.fro k ((xs.drop j).map enc)) := by
 have := Gv.cutLo (d := d) (ty := ty) (pos := pos) (af := af) (O := O) ht hs hx hy hi (by rwa [qh])
 rwa [← List.map_drop] at this
end
end Go.Proofs.YtpojdepccecpgaaGreatDoor
namespace Go.Proofs.YtpojdepccecpgaaGreatDoor
open Go.Proofs.Tryz
def mget (s : ByteArray) : List (ByteArray × Int) → Option Int
 | [] => none
 | (k, v) :: es => if s = k then some v else mget s es
def mset (s : ByteArray) (v : Int) : List (ByteArray × Int) → List (ByteArray × Int)
 | [] => [(s, v)]
 | (k, u) :: es => if s = k then (k, v) :: es else (k, u) :: mset s v es
def encME (p : ByteArray × Int) : Value × Value := (.string p.1, .int .i64 p.2)
def mapP (b : Nat) (es : List (ByteArray × Int)) (L : List (Nat × Obj)) : Prop := ∃ (arr : Array MapEntry) (clock : Nat), L = [(b, .map arr clock)] ∧ arr.toList.map (fun e => (e.key, e.val)) = es.map encME
def mapO (b : Nat) (es : List (ByteArray × Int)) : AObj := .heap (mapP b es)
def mref (b : Nat) : AV := .raw (.map (some b))
theorem findNow_none {s : ByteArray} : ∀ {l : List MapEntry} {es : List (ByteArray × Int)} {i : Nat}, l.map (fun e => (e.key, e.val)) = es.map encME → mget s es = none → Instr.findNow .string (.string s) l i = some none
 | [], [], _, _, _ => rfl
 | [], _ :: _, _, h, _ => by cases h
 | _ :: _, [], _, h, _ => by cases h
 | e :: l, (k, v) :: es, i, h, hg => by
  simp only [List.map_cons, List.cons.injEq, encME, Prod.mk.injEq] at h
  obtain ⟨⟨h1, _⟩, h2⟩ := h
  simp only [mget] at hg
  split at hg
  ·cases hg
  ·rename_i hne
   unfold Instr.findNow
   rw [h1]
   have : (s == k) = false := Bool.eq_false_iff.2 fun h => hne ((MapKept.bytes_beq s k).1 h)
   simp only [Instr.sameNow, this]
   exact findNow_none h2 hg
theorem findNow_some {s : ByteArray} {u : Int} : ∀ {l : List MapEntry} {es : List (ByteArray × Int)} {i : Nat}, l.map (fun e => (e.key, e.val)) = es.map encME → mget s es = some u →
  ∃ j, Instr.findNow .string (.string s) l i = some (some (i + j, .int .i64 u)) ∧ (∃ e, l[j]? = some e ∧ e.key = .string s) ∧ ∀ v, es.set j (s, v) = mset s v es
 | [], [], _, _, hg => by cases hg
 | [], _ :: _, _, h, _ => by cases h
 | _ :: _, [], _, h, _ => by cases h
 | e :: l, (k, v) :: es, i, h, hg => by
  simp only [List.map_cons, List.cons.injEq, encME, Prod.mk.injEq] at h
  obtain ⟨⟨h1, h3⟩, h2⟩ := h
  simp only [mget] at hg
  unfold Instr.findNow
  rw [h1]
  split at hg
  ·rename_i heq
   subst heq
   cases hg
   refine ⟨0, ?_, ⟨e, Z, h1⟩, fun v=>?_⟩
   ·have hss : (s == s) = true := (MapKept.bytes_beq s s).2 rfl
    simp only [Instr.sameNow, hss]
    rw [h3]; rfl
   ·simp [mset]
  ·rename_i hne
   have hb : (s == k) = false := Bool.eq_false_iff.2 fun h => hne ((MapKept.bytes_beq s k).1 h)
   obtain ⟨j, g1, g2, g3⟩ := findNow_some (i := i + 1) h2 hg
   refine ⟨j + 1, ?_, by simpa using g2, fun v=>?_⟩
   ·simp only [Instr.sameNow, hb, g1]
    congr 3; omega
   ·simp [mset, hne, g3]
section
variable {E : World} {P : Program} {n : Nat} {ops : Array Oper} {K : AEnv → OL → Prop} {env : AEnv} {O O' : OL} {rest : List Oper}
variable {d ty : Nat} {pos : String} {af : Array Edge} {t e kt : TypeId} {x y z : Operand} {b i : Nat} {es : List (ByteArray × Int)}
theorem AOps.makeMap (k : ∀ b, AOps P E ops K rest (aupd env d (mref b)) ((0, mapO b []) :: O)) : AOps P E ops K (Oper.mk (some d) (.makeMap t none) ty pos af none :: rest) env O := fun I F ρ w h1 ⟨ht, L, hL, hS⟩ => by
 refine q9 Z ?_
 unfold OpW
 have : (execOp (Go.Proofs.YtpojdepccecpgaaGreatDoor.ev ρ) (Oper.mk (some d) (.makeMap t none) ty pos af none)).run P w = .ok (.value (.map (some w.heap.size))) (w.alloc (.map #[] 0)) := by
  simp only [execOp, Option.map_none]
  rw [Sem.run_bind, run_makeMap_plain]; rfl
 rw [this]
 exact k w.heap.size I F _ _ (h1.upd d rfl) ⟨ht, (w.heap.size, .map #[] 0) :: L, ⟨[_], L, rfl, ⟨#[], 0, rfl, rfl⟩, hL⟩, hS.alloc _⟩
theorem map_in {I : G} {L : List (Nat × Obj)} (hO : Has O i (mapO b es)) (hL : RepOs I O L) : ∃ (arr : Array MapEntry) (clock : Nat), (b, Obj.map arr clock) ∈ L ∧ arr.toList.map (fun e => (e.key, e.val)) = es.map encME := by
 obtain ⟨O', hO⟩ := hO
 obtain ⟨A, B, hp, ⟨arr, clock, rfl, h2⟩, _⟩ := hO.rep hL
 exact ⟨arr, clock, hp.mem_iff.2 (by simp), h2⟩
theorem AOps.mapSet {s : ByteArray} {v : Int} (ht : P.underlying t = some (.map kt e)) (hk : P.underlying kt = some .string) (hx : aev env x = mref b) (hy : aev env y = .str s) (hz : aev env z = .int .i64 v) (hO : Put O i (mapO b es) (mapO b (mset s v es)) O')
  (k : AOps P E ops K rest env O') : AOps P E ops K (Oper.mk none (.mapUpdate t x y z) ty pos af none :: rest) env O := fun I F ρ w h1 ⟨htop, L, hL, hS⟩ => by
 have hx := evRaw h1 hx
 have hy := evT h1 hy
 have hz := evI h1 hz
 obtain ⟨A, B, hp, ⟨arr, clock, rfl, he⟩, hback⟩ := hO.rep hL
 have hS2 : SL I.k ((b, .map arr clock) :: (B ++ F)) E w := hS.perm ((hp.append_right F).symm)
 have hb := hS2.own _ (.head _)
 simp only at hb
 have hc : (Instr.checkKey false 10000 kt (.string s)).run P w = .ok () w := MapKept.run_checkKey (k := .string s) hk (by simp [MapKept.IsKey]) false 9999
 have fin : ∀ (arr' : Array MapEntry) (clock' : Nat), arr'.toList.map (fun e => (e.key, e.val)) = (mset s v es).map encME →
   (execOp (Go.Proofs.YtpojdepccecpgaaGreatDoor.ev ρ) (Oper.mk none (.mapUpdate t x y z) ty pos af none)).run P w = .ok .skip { w with heap := w.heap.setIfInBounds b (.map arr' clock') } → Ops P ops (postK I F E K) (Oper.mk none (.mapUpdate t x y z) ty pos af none :: rest) ρ w := fun arr' clock' he' hrun => by
  refine q9 Z ?_
  unfold OpW
  rw [hrun]
  obtain ⟨L', h7, h8⟩ := hback (G.le.refl I) (A' := [(b, .map arr' clock')]) ⟨arr', clock', rfl, he'⟩
  have hh := MapKept.heap_set (o' := .map arr' clock') hb
  have hS3 : SL I.k ((b, .map arr' clock') :: (B ++ F)) E { w with heap := w.heap.setIfInBounds b (.map arr' clock') } := hS2.turn rfl rfl rfl hh.1 hh.2
  exact k I F ρ _ h1 ⟨htop, L', h7, hS3.perm (h8.append_right F)⟩
 cases hg : mget s es with
 | none =>
  have hf := findNow_none (i := 0) he hg
  refine fin (arr.push { key := .string s, val := .int .i64 v, born := clock }) (clock + 1) ?_ ?_
  ·have hset : ∀ es : List (ByteArray × Int), mget s es = none → mset s v es = es ++ [(s, v)] := fun es => by
    induction es with
    | nil => intro _; rfl
    | cons x es ih =>
     obtain ⟨k, u⟩ := x
     intro hg
     simp only [mget] at hg
     split at hg
     ·cases hg
     ·rename_i hne; simp [mset, hne, ih hg]
   rw [hset es hg]
   simp [he, encME]
  ·simp [execOp, hx, hy, hz, Instr.mapUpdate, run_underlying ht, MapKept.run_getObj_map hb, hc, MapKept.run_findKey hk hf, MapKept.run_setObj_map _ hb, Result.andThen]
 | some u =>
  obtain ⟨j, hf, ⟨e0, hj, hkey⟩, hset⟩ := findNow_some (i := 0) he hg
  rw [Nat.zero_add] at hf
  have hj' : arr[j]? = some e0 := by rw [← Array.getElem?_toList]; exact hj
  refine fin (arr.modify j fun e => { e with key := .string s, val := .int .i64 v }) clock ?_ ?_
  ·rw [← hset v, List.map_set]
   have hjl : j < arr.toList.length := (List.getElem?_eq_some_iff.1 hj).1
   have : (arr.modify j fun e => { e with key := .string s, val := .int .i64 v }).toList = arr.toList.set j { e0 with key := .string s, val := .int .i64 v } := by
    apply List.ext_getElem?
    intro q
    rw [Array.getElem?_toList, Array.getElem?_modify]
    by_cases hq : j = q
    ·subst hq
     rw [if_pos rfl, hj', List.getElem?_set_self hjl]; rfl
    ·rw [if_neg hq, List.getElem?_set_ne hq, Array.getElem?_toList]
   rw [this, List.map_set, he]; rfl
  ·have hkeep : (Instr.keyThatStays (.string s) (.string s)).run P w = .ok (.string s) w := by
    have hss : (s == s) = true := (MapKept.bytes_beq s s).2 rfl
    simp [Instr.keyThatStays, Instr.sameBits, hss]
   simp [execOp, hx, hy, hz, Instr.mapUpdate, run_underlying ht, MapKept.run_getObj_map hb, hc, MapKept.run_findKey hk hf, MapKept.run_setObj_map _ hb, Result.andThen, hj', hkey, hkeep]
end
end Go.Proofs.YtpojdepccecpgaaGreatDoor
namespace Go.Proofs.YtpojdepccecpgaaGreatDoor
open Go.Proofs.Tryz
section
variable {E : World} {P : Program} {n : Nat} {ops : Array Oper} {K : AEnv → OL → Prop} {env : AEnv} {O O' : OL} {rest : List Oper} {R : AV → OL → Prop}
variable {d ty : Nat} {pos : String} {af : Array Edge} {t e : TypeId} {x y : Operand}
theorem afin.c1t {t u T i : Nat} {T' : TypeId} {cs : List AV} {n : Nat} {y : AV} (hv : env t = .po i 0) (hu : env u = y) (hO : Has O i (.cells T' cs)) (ha : ∀ w, (isAgg T).run P w = .ok true w) (hs : ∀ w, (sizeOf T).run P w = .ok n w) (hn : cs.length = n) (h : R (.tup [.agg cs, y]) O) :
  afin P E #[.cell t T, .tmp u] R .ret env O := afin.of (x := .tup [.agg cs, y]) (fun I F ρ w h1 h2 => by
 obtain ⟨L, hL, hS⟩ := h2.2
 have h3 := h1 t
 rw [hv] at h3
 obtain ⟨b, c, e1, e⟩ := h3
 obtain ⟨b', c', vs, e2, h4, hm⟩ := hO.cells hL
 rw [e1] at e2; cases e2
 have hl := run_loadVar_agg (P := P) (w := w) (b := b) (off := 0) ha (cs := vs) (by rw [h4.length, hn]; exact hs) (fun j v hj => by
  rw [Nat.zero_add]
  exact hS.at_ (.inr ⟨_, _, _, List.mem_append_left _ hm, by rw [List.getElem?_toArray]; exact hj⟩))
 exact ⟨.tuple #[.agg vs.toArray, ρ u], by simp [resE, e, asAddr, hl], ⟨[_, _], rfl, _, _, rfl, ⟨vs, rfl, h4⟩, _, _, rfl, hu ▸ h1 u, rfl⟩⟩) h
end
end Go.Proofs.YtpojdepccecpgaaGreatDoor
namespace Go.Proofs.YtpojdepccecpgaaGreatDoor
open Go.Proofs.Tryz
section
variable {E : World} {P : Program} {env : AEnv} {O : OL} {d ty : Nat} {pos : String} {af : Array Edge} {x : Operand} {t u : TypeId}
end
end Go.Proofs.YtpojdepccecpgaaGreatDoor
namespace Go.Proofs.YtpojdepccecpgaaGreatDoor
open Go.Proofs.Tryz
section
variable {E : World} {P : Program} {ops : Array Oper} {K : AEnv → OL → Prop} {env : AEnv} {O O' O'' : OL} {rest : List Oper} {n : Nat}
variable {d ty : Nat} {pos : String} {af : Array Edge} {x y z : Operand} {t u e : TypeId}
theorem drop_last {A row : List AV} {j : Nat} {c : AV} (h : row[j]? = some c) : (A ++ row).drop (A.length + j) = c :: row.drop (j + 1) := by
 obtain ⟨hj, rfl⟩ := List.getElem?_eq_some_iff.1 h
 rw [List.drop_append, List.drop_eq_nil_of_le (by omega), Nat.add_sub_cancel_left, List.nil_append]
 exact List.drop_eq_getElem_cons hj
theorem Gv.loadL {i off j k : Nat} {T : TypeId} {c : AV} {A row : List AV} (ha : ∀ w, (isAgg t).run P w = .ok false w) (hx : aev env x = .po i off) (hoff : off = A.length + j) (hO : Has O i (.grow k T (A ++ row))) (hv : row[j]? = some c) :
  Gv P env O (Oper.mk (some d) (.load t x) ty pos af none) c := Gv.load1G ha hx hO (by subst hoff; exact drop_last hv)
theorem AOps.storeL {i off j m k : Nat} {T : TypeId} {v : AV} {A row l new : List AV} (hs : ∀ w, (sizeOf t).run P w = .ok m w) (hx : aev env x = .po i off) (hoff : off = A.length + j) (hy : aev env y = v) (hv : v.sto = true) (hl : v.cs = l) (hl1 : l.all AV.cell = true) (hn : l.length = m)
  (hO : Put O i (.grow k T (A ++ row)) (.grow k T (A ++ new)) O') (hb : Nat.ble (j + m) row.length = true) (hm : Nat.ble 1 m = true) (hnew : row.take j ++ l ++ row.drop (j + m) = new) (kk : AOps P E ops K rest env O') : AOps P E ops K (Oper.mk none (.store t x y) ty pos af none :: rest) env O :=
 AOps.storeG hs hx hy hv hl hl1 hn hO (by have := Nat.le_of_ble_eq_true hb; rw [qg]; omega) (Nat.le_of_ble_eq_true hm) (by
  have := Nat.le_of_ble_eq_true hb
  subst hoff hnew
  rw [List.take_append, List.take_of_length_le (by omega : A.length ≤ A.length + j), Nat.add_sub_cancel_left, List.drop_append, List.drop_eq_nil_of_le (by omega : A.length ≤ A.length + j + m), Nat.add_assoc, Nat.add_sub_cancel_left]
  simp) kk
theorem Gv.idxOL {i n k j r : Nat} {a : Int} {T : TypeId} {cs : List AV} (ht : P.underlying t = some (.slice e)) (hs : ∀ w, (sizeOf e).run P w = .ok k w) (hx : aev env x = .own i n) (hy : aev env y = .int .i64 a) (hi : a = (j : Int)) (hO : Has O i (.grow k T cs)) (hne : cs ≠ []) (hj : j < n) (hr : j * k = r) :
  Gv P env O (Oper.mk (some d) (.indexAddr t x y) ty pos af none) (.po i r) := hr ▸ Gv.idxO ht hs hx hy hi hO hne hj
end
section
variable {P : Program} {E : World} {l : List Oper} {W : Nat → Bool} {fuel : Nat} {listed : Array Bool} {d ty : Nat} {op : Op} {pos : String} {af : Array Edge}
end
theorem GStep.knowP {E : World} {env : AEnv} {O O' : OL} {t i : Nat} {T : TypeId} {cs : List AV} (hv : env t = .po i 0) (hO : Pick O i (.cells T cs) O') : GStep E env O (aupd env t (.pf cs)) O' := fun I F ρ w h1 ⟨ht, L, hL, hS⟩ => by
 obtain ⟨A, B, hp, ⟨b, c, vs, e1, hvs, hvc, rfl⟩, hB⟩ := hO.rep hL
 simp only at e1
 have hS2 : SL I.k ((b, .cells vs.toArray T (0, 0)) :: (B ++ F)) E w := hS.perm ((hp.append_right F).symm)
 obtain ⟨hl, hS3⟩ := SL.freeze hS2
 let J : G := ⟨I.k.put b (.cells vs.toArray T (0, 0)), I.h⟩
 have hle : I.le J := ⟨hl, fun _ _ h => h⟩
 refine ⟨J, hle, fun s=>?_, ht, B, hB.mono hle, hS3⟩
 unfold aupd
 cases hb : Nat.beq s t with
 | false => exact RepV.mono hle _ _ (h1 s)
 | true =>
  have : s = t := Nat.eq_of_beq_eq_true hb
  subst this
  have h2 := h1 s
  rw [hv] at h2
  obtain ⟨b2, c2, e2, e3⟩ := h2
  rw [e1] at e2
  simp only [Option.some.injEq, Prod.mk.injEq] at e2
  obtain ⟨rfl, rfl⟩ := e2
  exact ⟨b, 0, vs, e3, RepL.mono hle _ _ hvs, fun j u hj => ⟨_, _, _, Ghost.put_same _ _ _, by rw [Nat.zero_add, List.getElem?_toArray]; exact hj⟩⟩
end Go.Proofs.YtpojdepccecpgaaGreatDoor
namespace Go.Proofs.YtpojdepccecpgaaGreatDoor
open Go.Proofs.Tryz
section
variable {E : World} {P : Program} {ops : Array Oper} {K : AEnv → OL → Prop} {env : AEnv} {O O' : OL} {rest : List Oper}
variable {d ty : Nat} {pos : String} {af : Array Edge} {x y z : Operand} {t u e : TypeId}
end
end Go.Proofs.YtpojdepccecpgaaGreatDoor
namespace Go.Proofs.YtpojdepccecpgaaGreatDoor
open Go.Proofs.Tryz
section
variable {P : Program} {env : AEnv} {O : OL}
variable {d ty : Nat} {pos : String} {af : Array Edge} {x y : Operand}
theorem Gv.minI {ts : Array TypeId} {k : IntKind} {a b : Int} (hx : aev env x = .int k a) (hy : aev env y = .int k b) : Gv P env O (Oper.mk (some d) (.call { callee := .builtin .min, args := #[x, y], argTypes := ts }) ty pos af none) (.int k (if b < a then b else a)) := q8 fun I ρ h => ⟨_, rfl, fun w => by
 simp [execOp, resolve, evI h hx, evI h hy, invoke, builtin, Builtin.min_, Builtin.min2, Result.andThen]⟩
end
end Go.Proofs.YtpojdepccecpgaaGreatDoor
namespace Go.Proofs.YtpojdepccecpgaaGreatDoor
open Go.Proofs.Tryz
open Go.Lib
section
variable {P : Program} {ops : Array Oper} {K : Env → World → Prop} {ρ : Env} {w : World} {rest : List Oper}
variable {d ty : Nat} {pos : String} {af : Array Edge} {x y z : Operand} {t u e : TypeId}
variable {I : Ghost} {O A : List (Nat × Obj)} {E : World}
theorem strCells_cell (s : ByteArray) : ∀ v ∈ strCells s, v.oneCell' = true := by
 intro v hv
 unfold strCells at hv
 obtain ⟨_, _, rfl⟩ := List.mem_map.1 hv; rfl
theorem run_appendT_SL {i : TypeInfo} {n cap : Nat} {a : Option Addr} {cs : List Value} (ht : P.underlying t = some (.slice e)) (hu : P.underlying u = some .string) (hi : P.info? e = some i) (hz : i.zero = some (.int .u8 0)) (hs1 : i.size = 1) (hby : i.bytes = 1)
  (hS : SL I (A ++ O) E w) (hA : OwnS 1 e a n cap cs A) (s : ByteArray) (hb : n + s.size ≤ 140737488355328) :
  ∃ a' cap' A' w', (Builtin.append_ #[t, u] ty #[.slice a n cap, .string s]).run P w = .ok (.slice a' (n + s.size) cap') w' ∧ OwnS 1 e a' (n + s.size) cap' (cs ++ strCells s) A' ∧ SL I (A' ++ O) E w' := by
 obtain ⟨hcl, hnc, hA⟩ := hA
 rw [Nat.mul_one] at hcl
 have hnl := strCells_length s
 rcases hA with ⟨rfl, rfl, rfl⟩ | ⟨b, junk, rfl, rfl, hjl⟩
 ·have hn0 : n = 0 := by omega
  subst hn0
  have hcs : cs = [] := List.eq_nil_of_length_eq_zero (by simpa using hcl)
  subst hcs
  by_cases hm : s.size = 0
  ·have hn : strCells s = [] := List.eq_nil_of_length_eq_zero (by rw [hnl]; exact hm)
   refine ⟨none, 0, [], w, ?_, by rw [hm, hn]; exact OwnS.nil _ _, hS⟩
   have hf := run_firstCells_string (P := P) w 1 s
   rw [hm] at hf
   simp [Builtin.append_, run_underlying ht, run_underlying hu, sizeOf, typeInfo, hi, hs1, Builtin.lenOf, hm, hf]
  ·have hr := run_append_nil_string (P := P) w t u ty e i (.int .u8 0) ht hu hi hz s (by omega) (by omega) (by rw [hby]; omega)
   have e1 : (s.data.map fun b => Value.int .u8 b.toNat) = (strCells s).toArray := by
    apply Array.ext'
    simp [strCells]
   rw [e1] at hr
   refine ⟨_, _, [(w.heap.size, .cells ((strCells s).toArray ++ Builtin.zeroCells (Value.int .u8 0).cells (grownCap w s.size 0 e - s.size)) e (0, 0))], _, by rw [Nat.zero_add]; exact hr, ⟨by simp [hnl], by rw [Nat.zero_add]; exact grownCap_ge _ _ _ _, .inr ⟨_, (Builtin.zeroCells (Value.int .u8 0).cells (grownCap w s.size 0 e - s.size)).toList, rfl, ?_, ?_⟩⟩, (hS.drew).alloc _⟩
   ·congr 2; congr 1; simp
   ·have := grownCap_ge w s.size 0 e
    have hz1 : (Value.int IntKind.u8 0).cells.size = 1 := rfl
    simp only [List.nil_append, qg, hnl, Array.length_toList, size_zeroCells, hz1]
    omega
 ·have hown := hS.own (b, .cells (cs ++ junk).toArray e (0, 0)) (by simp)
  simp only at hown
  have hjl' : cs.length + junk.length = cap := by simpa using hjl
  by_cases hroom : n + s.size ≤ cap
  ·have hrun := run_append_room_string (P := P) w t u ty e i ht hu hi hs1 b n cap (cs ++ junk).toArray hown s hroom (by simp; omega)
   have hshape : (List.take n (cs ++ junk).toArray.toList ++ strCells s ++ List.drop (n + s.size) (cs ++ junk).toArray.toList) = (cs ++ strCells s) ++ junk.drop s.size := by
    have e1 : n = cs.length := hcl.symm
    simp only [e1]
    rw [List.take_left, List.drop_append, List.drop_eq_nil_of_le (by omega : cs.length ≤ cs.length + s.size)]
    simp
   rw [hshape] at hrun
   refine ⟨_, _, [(b, .cells ((cs ++ strCells s) ++ junk.drop s.size).toArray e (0, 0))], _, hrun, ⟨by rw [qg, hcl, hnl, Nat.mul_one], hroom, .inr ⟨b, _, rfl, rfl, ?_⟩⟩, ?_⟩
   ·simp only [qg, List.length_drop]; omega
   ·refine SL.turn (w := w) hS rfl rfl rfl ?_ ?_
    ·simp [World.setRow, Array.getElem?_modify, hown]
    ·intro k hk
     simp only [World.setRow, Array.getElem?_modify]
     rw [if_neg (by omega)]
  ·have hrun := run_append_grow_string (P := P) w t u ty e i (.int .u8 0) ht hu hi hz ⟨b, 0, none⟩ n cap cs (by rw [hs1, Nat.mul_one]; exact hcl) (fun j v hj => by
    rw [addr_add, Nat.zero_add]
    refine hS.at_ (.inr ⟨_, _, _, List.mem_append_left _ (List.mem_singleton.2 Z), ?_⟩)
    have := (List.getElem?_eq_some_iff.1 hj).1
    rw [List.getElem?_toArray, List.getElem?_append_left this]; exact hj) s (by omega) (by omega) (by rw [hby]; exact growslice_fits (by omega) (by omega))
   refine ⟨_, _, [(w.heap.size, .cells (cs.toArray ++ (strCells s).toArray ++ Builtin.zeroCells (Value.int .u8 0).cells (grownCap w (n + s.size) cap e - (n + s.size))) e (0, 0))], _, hrun, ⟨by rw [qg, hcl, hnl, Nat.mul_one], grownCap_ge _ _ _ _, .inr ⟨_, (Builtin.zeroCells (Value.int .u8 0).cells (grownCap w (n + s.size) cap e - (n + s.size))).toList, rfl, ?_, ?_⟩⟩, ?_⟩
   ·congr 2; congr 1; simp
   ·have := grownCap_ge w (n + s.size) cap e
    have hz1 : (Value.int IntKind.u8 0).cells.size = 1 := rfl
    simp only [qg, hcl, hnl, Array.length_toList, size_zeroCells, hz1]
    omega
   ·have h2 := (hS.drew).alloc (.cells (cs.toArray ++ (strCells s).toArray ++ Builtin.zeroCells (Value.int .u8 0).cells (grownCap w (n + s.size) cap e - (n + s.size))) e (0, 0))
    refine h2.sub ?_
    exact List.Sublist.cons_cons _ (List.sublist_cons_self _ _)
end
def strAV (s : ByteArray) : List AV := s.data.toList.map fun b => .int .u8 b.toNat
theorem strAV_rep (I : G) (s : ByteArray) : RepL I (strAV s) (strCells s) := by
 unfold strAV strCells
 induction s.data.toList with
 | nil => rfl
 | cons b l ih => exact ⟨_, _, rfl, rfl, ih⟩
theorem strAV_len (s : ByteArray) : (strAV s).length = s.size := by
 have := (strAV_rep ⟨fun _ => none, fun _ => none⟩ s).length
 rw [← this, strCells_length]
theorem strAV_app (s u : ByteArray) : strAV (s ++ u) = strAV s ++ strAV u := by unfold strAV; rw [ByteArray.data_append]; simp
theorem strAV_un {I : G} {s : ByteArray} {vs : List Value} (h : RepL I (strAV s) vs) : vs = strCells s := by
 unfold strAV at h; unfold strCells
 generalize s.data.toList = l at h
 induction l generalizing vs with
 | nil => exact h
 | cons b l ih =>
  obtain ⟨v, us, rfl, h1, h2⟩ := h
  have h1 : v = .int .u8 b.toNat := h1
  rw [h1, ih h2]; rfl
section
variable {E : World} {P : Program} {ops : Array Oper} {K : AEnv → OL → Prop} {env : AEnv} {O O' : OL} {rest : List Oper}
variable {d ty : Nat} {pos : String} {af : Array Edge} {x y z : Operand} {t u e : TypeId}
theorem AOps.appendT {ti : TypeInfo} {n i : Nat} {cs : List AV} {s : ByteArray} {f : Nat → OL} (ht : P.underlying t = some (.slice e)) (hu : P.underlying u = some .string) (hi : P.info? e = some ti) (hz : ti.zero = some (.int .u8 0)) (hs1 : ti.size = 1) (hby : ti.bytes = 1)
  (hx : aev env x = .own i n) (hy : aev env y = .str s) (hO : ∀ j, Swp O i (.grow 1 e cs) j (.grow 1 e (cs ++ strAV s)) (f j)) (hn : cs.length = n) (hb : n + s.size ≤ 140737488355328)
  (kk : ∀ j, AOps P E ops K rest (aupd env d (.own j (n + s.size))) (f j)) :
  AOps P E ops K (Oper.mk (some d) (.call { callee := .builtin .append, args := #[x, y], argTypes := #[t, u] }) ty pos af none :: rest) env O := fun I F ρ w h1 h2 => by
 obtain ⟨htop, L, hL, hS⟩ := id h2
 have h3 := h1.ev x
 rw [hx] at h3
 obtain ⟨b, cap, e1, ex⟩ := h3
 have ey := evT h1 hy
 obtain ⟨j, hj⟩ := h2.name
 obtain ⟨A, B, hp, ⟨b', cap', n', us, e2, hus, huc, hown⟩, hback⟩ := (hO j).rep hL
 simp only at e2
 rw [e1] at e2
 simp only [Option.some.injEq, Prod.mk.injEq] at e2
 obtain ⟨rfl, rfl⟩ := e2
 have hnn : n' = n := by
  have h5 := hown.1
  have h6 := hus.length
  omega
 subst hnn
 have hS2 : SL I.k (A ++ (B ++ F)) E w := hS.perm (by rw [← qc]; exact (hp.append_right F).symm)
 obtain ⟨a', c', A', w', hrun, h5, h6⟩ := run_appendT_SL (ty := ty) ht hu hi hz hs1 hby hS2 hown s hb
 have hb' : ∃ b'', a' = adr b'' := by
  rcases h5.2.2 with ⟨e, _⟩ | ⟨b'', junk, e, _⟩
  ·exact ⟨none, e⟩
  ·exact ⟨some b'', e⟩
 obtain ⟨b'', rfl⟩ := hb'
 obtain ⟨J, ek, hle, e3, htop'⟩ := hj (b'', c')
 obtain ⟨L', h8, h9⟩ := hback hle (A' := A') ⟨b'', c', _, us ++ strCells s, e3, RepL.mono hle _ _ (hus.append (strAV_rep I s)), (by
  intro v hv
  rcases List.mem_append.1 hv with hv | hv
  ·exact huc v hv
  ·exact strCells_cell s v hv), h5⟩
 refine q9 Z ?_
 unfold OpW
 have : (execOp (Go.Proofs.YtpojdepccecpgaaGreatDoor.ev ρ) (Oper.mk (some d) (.call { callee := .builtin .append, args := #[x, y], argTypes := #[t, u] }) ty pos af none)).run P w = .ok (.value (.slice (adr b'') (n' + s.size) c')) w' := by
  simp [execOp, resolve, ex, ey, invoke, builtin, hrun]
 rw [this]
 exact yu (fun _ _ => yz hle) _ _ _ (kk j J F _ _ ((h1.mono hle).upd d ⟨b'', c', e3, rfl⟩) ⟨htop', L', h8, by rw [ek]; exact h6.perm (by rw [← qc]; exact h9.append_right F)⟩)
theorem Gv.eqlNilR (hp : P.underlying t = some (.pointer (P.pointee t))) (hx : aev env x = .raw (.pointer none)) : Gv P env O (Oper.mk (some d) (.binOp .eql t x (.const (.pointer none)) u) ty pos af none) (.bool true) := q8 fun I ρ h => by
 have h1 := evRaw h hx
 have e2 : Go.Proofs.YtpojdepccecpgaaGreatDoor.ev ρ (.const (.pointer none)) = .pointer none := rfl
 exact ⟨_, rfl, fun w => by simp only [execOp, h1, e2]; simp [eqGuard, run_eql_pointer_nil w t none hp]⟩
theorem Gv.eqlNilO {i off : Nat} (hp : P.underlying t = some (.pointer (P.pointee t))) (hx : aev env x = .po i off) : Gv P env O (Oper.mk (some d) (.binOp .eql t x (.const (.pointer none)) u) ty pos af none) (.bool false) := q8 fun I ρ h => by
 have h1 := h.ev x
 rw [hx] at h1
 obtain ⟨b, c, _, h1⟩ := h1
 have e2 : Go.Proofs.YtpojdepccecpgaaGreatDoor.ev ρ (.const (.pointer none)) = .pointer none := rfl
 exact ⟨_, rfl, fun w => by simp only [execOp, h1, e2]; simp [eqGuard, run_eql_pointer_nil w t _ hp]⟩
theorem Gv.neqPO {i off : Nat} {te : TypeId} {j : TypeInfo} (hp : P.underlying t = some (.pointer te)) (hte : P.info? te = some j) (hx : aev env x = .po i off) (hy : aev env y = .po i off) : Gv P env O (Oper.mk (some d) (.binOp .neq t x y u) ty pos af none) (.bool false) := q8 fun I ρ h => by
 have h1 := h.ev x
 have h2 := h.ev y
 rw [hx] at h1
 rw [hy] at h2
 obtain ⟨b, c, e1, h1⟩ := h1
 obtain ⟨b', c', e2, h2⟩ := h2
 rw [e1] at e2; cases e2
 exact ⟨_, rfl, fun w => by simp only [execOp, h1, h2]; simp [eqGuard, run_neq_ptr_same w ⟨b, off, none⟩ hp hte]⟩
theorem shape_of {w : World} {b : Nat} {c : Array Value} {T : TypeId} {f : Nat × Nat} (h : w.heap[b]? = some (.cells c T f)) : w.shape? b = some (T, c.size) := by simp [World.shape?, h]
theorem Gv.toUnsafe {src dst te T : TypeId} {j : TypeInfo} {i off : Nat} {cs : List AV} (hs : P.underlying src = some (.pointer te)) (hd : P.underlying dst = some .unsafePointer) (ht : P.info? te = some j) (hj : j.size ≠ 0)
  (hx : aev env x = .po i off) (hO : Has O i (.cells T cs)) (hoff : off < cs.length) : Gv P env O (Oper.mk (some d) (.convert src dst x) ty pos af none) (.po i off) := fun I L E ρ h hL => by
 have h1 := h.ev x
 rw [hx] at h1
 obtain ⟨b, c, e1, h1⟩ := h1
 obtain ⟨b', c', vs, e2, h4, hm⟩ := hO.cells hL
 rw [e1] at e2; cases e2
 refine ⟨_, ⟨b, c, e1, Z⟩, fun w J L' hl hS hin => ?_⟩
 have hw := hS.own _ (hin _ hm)
 simp only [execOp, h1]
 rw [Sem.run_bind, run_to_unsafe w ⟨b, off, none⟩ hs hd ht hj (shape_of hw) (by have := h4.length; simp; omega)]; rfl
theorem Gv.fromUnsafe {src dst te T : TypeId} {j : TypeInfo} {i off : Nat} {cs : List AV} (hs : P.underlying src = some .unsafePointer) (hd : P.underlying dst = some (.pointer te)) (ht : P.info? te = some j)
  (hx : aev env x = .po i off) (hO : Has O i (.cells T cs)) (hlies : liesAt P P.depth T (cs.length / P.cellsOf T) off te 1 = true) : Gv P env O (Oper.mk (some d) (.convert src dst x) ty pos af none) (.po i off) := fun I L E ρ h hL => by
 have h1 := h.ev x
 rw [hx] at h1
 obtain ⟨b, c, e1, h1⟩ := h1
 obtain ⟨b', c', vs, e2, h4, hm⟩ := hO.cells hL
 rw [e1] at e2; cases e2
 refine ⟨_, ⟨b, c, e1, Z⟩, fun w J L' hl hS hin => ?_⟩
 have hw := hS.own _ (hin _ hm)
 have hsz : vs.toArray.size = cs.length := by have := h4.length; simpa using this
 have hsh := shape_of hw
 rw [hsz] at hsh
 simp only [execOp, h1]
 rw [Sem.run_bind, run_from_unsafe w ⟨b, off, none⟩ hs hd ht hsh hlies]; rfl
theorem Gv.noEscape {f : FuncId} {fn : Func} {v : AV} {tys : Array TypeId} (hf : P.funcs[f]? = some fn) (hname : (fn.name == "runtime.NumGoroutine") = false) (hb : fn.body.isNone = true) (hn : Extern.findNext fn = none) (he : Extern.find fn = some Extern.AbiNoEscape.same) (hx : aev env x = v) :
  Gv P env O (Oper.mk (some d) (.call { callee := .value (.func f), args := #[x], argTypes := tys }) ty pos af none) v := q8 fun I ρ h => by
 refine ⟨Go.Proofs.YtpojdepccecpgaaGreatDoor.ev ρ x, hx ▸ h.ev x, fun w=>?_⟩
 have := run_callFunc_extern hf hname hb hn he #[Go.Proofs.YtpojdepccecpgaaGreatDoor.ev ρ x] w
 rw [run_noEscape] at this
 have e1 : Go.Proofs.YtpojdepccecpgaaGreatDoor.ev ρ (.func f) = .func (.func f) #[] #[] := rfl
 simp [execOp, resolve, e1, Deferred.ofValue, invoke, this, Result.andThen]
theorem SL.scrap {I : Ghost} {A : List (Nat × Obj)} {E w w' : World} {b : Nat} {o : Obj} (h : SL I ((b, o) :: A) E w) (h1 : w'.os = w.os) (h2 : w'.output = w.output) (h3 : w'.tape = w.tape) (h5 : ∀ k, k ≠ b → w'.heap[k]? = w.heap[k]?) : SL I A E w' := by
 have hn := h.nodup
 simp only [List.map_cons, List.nodup_cons] at hn
 refine ⟨h1.trans h.os, h2.trans h.output, h3.trans h.tape, ?_, ?_, hn.2, fun x hx => h.apart x (List.mem_cons_of_mem _ hx), h.base, h.flat, fun x hx => h.oflat x (List.mem_cons_of_mem _ hx)⟩
 ·intro k ok hk
  rw [h5 k (fun e=>?_)]
  ·exact h.pers k ok hk
  ·subst e; rw [h.apart (k, o) (by simp)] at hk; cases hk
 ·intro x hx
  rw [h5 x.1 (fun e => hn.1 (e ▸ List.mem_map.2 ⟨x, hx, rfl⟩))]
  exact h.own x (List.mem_cons_of_mem _ hx)
end
section
variable {E : World} {P : Program} {env : AEnv} {O : OL} {d ty : Nat} {pos : String} {af : Array Edge} {t e kt : TypeId} {x y : Operand} {b i : Nat} {es : List (ByteArray × Int)}
theorem Gv.lookup1S {s : ByteArray} (ht : P.underlying t = some (.map kt e)) (hk : P.underlying kt = some .string) (hz : ∀ w, (zeroValue e).run P w = .ok (.int .i64 0) w) (hx : aev env x = mref b) (hy : aev env y = .str s) (hO : Has O i (mapO b es)) :
  Gv P env O (Oper.mk (some d) (.lookup t x y false) ty pos af none) (.int .i64 ((mget s es).getD 0)) := fun I L E ρ h1 hL => by
 obtain ⟨arr, clock, hm, he⟩ := map_in hO hL
 have hx := evRaw h1 hx
 have hy := evT h1 hy
 refine ⟨.int .i64 ((mget s es).getD 0), Z, fun w J L' hl hS hin => ?_⟩
 have hb := hS.own _ (hin _ hm)
 simp only at hb
 have hc : (Instr.checkKey arr.isEmpty 10000 kt (.string s)).run P w = .ok () w := MapKept.run_checkKey (k := .string s) hk (by simp [MapKept.IsKey]) _ 9999
 cases hg : mget s es with
 | none =>
  have hf := findNow_none (i := 0) he hg
  simp [execOp, Instr.lookup, run_underlying ht, hx, hy, MapKept.run_getObj_map hb, hc, MapKept.run_findKey hk hf, hz, Result.andThen]
 | some u =>
  obtain ⟨j, hf, _⟩ := findNow_some (i := 0) he hg
  simp [execOp, Instr.lookup, run_underlying ht, hx, hy, MapKept.run_getObj_map hb, hc, MapKept.run_findKey hk hf, Result.andThen]
end
theorem mget_set (s v : ByteArray) (n : Int) : ∀ es : List (ByteArray × Int), mget s (mset v n es) = if s = v then some n else mget s es
 | [] => by simp only [mset, mget]
 | (k, u) :: es => by
  simp only [mset]
  split
  ·rename_i h; subst h; simp only [mget]; split <;> rfl
  ·rename_i h
   simp only [mget, mget_set s v n es]
   split
   ·rename_i h2; subst h2; rw [if_neg (fun e => h e.symm)]
   ·rfl
set_option linter.defProp false
def zc := @Pick.perm
def yf := @GStep.knowP
def yg := @AAny.two
def q6 := @RepL.fld
end Go.Proofs.YtpojdepccecpgaaGreatDoor
