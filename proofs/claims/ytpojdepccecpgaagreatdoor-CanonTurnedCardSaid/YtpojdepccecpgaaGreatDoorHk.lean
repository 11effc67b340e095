/- The document's typed; the laws' typed, single and plain. Of programs that are little. -/
import Derived.Test.YtpojdepccecpgaaGreatDoorHj
import Derived.Test.YtpojdepccecpgaaGreatDoorHe
import Derived.Shelf.SlSortCmp.WholeK
import Derived.Ground.SlsfProg
import Derived.Test.YtpojdepccecpgaaGreatDoorChecked
import Derived.Test.YtpojdepccecpgaaGreatDoorHi
import Derived.Test.YtpojdepccecpgaaGreatDoorHd
import Derived.Test.YtpojdepccecpgaaGreatDoorHh
import Derived.LaidEqlPtr
set_option linter.unusedVariables false
set_option linter.unusedSimpArgs false
set_option linter.unusedSectionVars false
namespace Go.Proofs.YtpojdepccecpgaaGreatDoor
open Go.Proofs.Tryz
open Go.Proofs
def lC (l : List Rng) : List AV := eP.av l
theorem lC_len (l : List Rng) : (lC l).length = l.length * 2 := eP.av_len l
theorem lC_push (l : List Rng) (r : Rng) : lC l ++ encZ r = lC (l ++ [r]) := eP.av_push l r
theorem lC_cons (r : Rng) (l : List Rng) : lC (r :: l) = .int .i64 r.1 :: .int .i64 r.2 :: lC l := rfl
theorem lC_drop : ∀ (l : List Rng) (j : Nat), (lC l).drop (j * 2) = lC (l.drop j)
 | l, 0 => by simp
 | [], j + 1 => by simp [lC, Enc.av]
 | r :: l, j + 1 => by
  rw [show (j + 1) * 2 = j * 2 + 1 + 1 by omega, lC_cons, List.drop_succ_cons, List.drop_succ_cons, lC_drop l j, List.drop_succ_cons]
theorem lC_get {l : List Rng} {j : Nat} {r : Rng} (h : l[j]? = some r) : (lC l).drop (j * 2) = .int .i64 r.1 :: .int .i64 r.2 :: lC (l.drop (j + 1)) := by
 obtain ⟨hj, e⟩ := List.getElem?_eq_some_iff.1 h
 rw [lC_drop, List.drop_eq_getElem_cons hj, e, lC_cons]
theorem lC_ne {l : List Rng} {j : Nat} (h : j < l.length) : lC l ≠ [] := fun e => by have := lC_len l; rw [e] at this; simp at this; omega
section
variable {E : World} {P : Program} {ops : Array Oper} {K : AEnv → OL → Prop} {env : AEnv} {O O' O'' : OL} {rest : List Oper} {n : Nat}
variable {d ty : Nat} {pos : String} {af : Array Edge} {x y z : Operand} {t u e T : TypeId}
theorem Gv.idxR {i n j : Nat} {a : Int} {T : TypeId} {l : List Rng} (ht : P.underlying t = some (.slice e)) (hs : ∀ w, (sizeOf e).run P w = .ok 2 w) (hx : aev env x = .own i n) (hy : aev env y = .int .i64 a) (hi : a = (j : Int)) (hO : Has O i (.grow 2 T (lC l))) (hn : l.length = n) (hj : j < n) :
  Gv P env O (Oper.mk (some d) (.indexAddr t x y) ty pos af none) (.po i (j * 2)) := Gv.idxO ht hs hx hy hi hO (lC_ne (j := j) (by omega)) hj
theorem Gv.loadR {i j : Nat} {T : TypeId} {l : List Rng} {r : Rng} (ha : ∀ w, (isAgg t).run P w = .ok true w) (hs : ∀ w, (sizeOf t).run P w = .ok 2 w) (hx : aev env x = .po i (j * 2)) (hO : Has O i (.grow 2 T (lC l))) (hv : l[j]? = some r) :
  Gv P env O (Oper.mk (some d) (.load t x) ty pos af none) (.agg (encZ r)) := by
 have hj := (List.getElem?_eq_some_iff.1 hv).1
 exact Gv.loadAG ha hs hx hO (lC_ne hj) (by rw [lC_len]; omega) (by rw [lC_get hv]; rfl)
theorem GStep.knowR {t i m : Nat} {T : TypeId} {l : List Rng} (hv : env t = .own i m) (hO : Pick O i (.grow 2 T (lC l)) O') (hm : l.length = m) : GStep E env O (aupd env t (.fro 2 (l.map encZ))) O' :=
 GStep.know hv (rows := l.map encZ) (by
  have : (l.map encZ).flatten = lC l := by unfold lC Enc.av; rw [List.flatMap]; rfl
  rw [this]; exact hO) (fun r hr => by obtain ⟨_, _, rfl⟩ := List.mem_map.1 hr; rfl) (by decide) (by rw [qh]; exact hm)
end
structure RdL (P : Program) (te ee : TypeId) (Lv : AV) (ptr : Nat → AV) (i : Nat) (HL : AObj) (l : List Rng) : Prop where
 idx : ∀ {env : AEnv} {O : OL} {d ty : Nat} {pos : String} {af : Array Edge} {x y : Operand} {a : Int} {j : Nat}, aev env x = Lv → aev env y = .int .i64 a → a = (j : Int) → j < l.length → Has O i HL → Gv P env O (Oper.mk (some d) (.indexAddr te x y) ty pos af none) (ptr j)
 load : ∀ {env : AEnv} {O : OL} {d ty : Nat} {pos : String} {af : Array Edge} {x : Operand} {j : Nat} {r : Rng}, aev env x = ptr j → l[j]? = some r → Has O i HL → Gv P env O (Oper.mk (some d) (.load ee x) ty pos af none) (.agg (encZ r))
def ptrF (l : List Rng) (j : Nat) : AV := .pf (encZ ((l[j]?).getD noR))
def ptrO (i : Nat) (j : Nat) : AV := .po i (j * 2)
theorem RdL.fro {P : Program} {te ee : TypeId} (ht : P.underlying te = some (.slice ee)) (hs : ∀ w, (sizeOf ee).run P w = .ok 2 w) (ha : ∀ w, (isAgg ee).run P w = .ok true w) (i : Nat) (HL : AObj) (l : List Rng) : RdL P te ee (.fro 2 (l.map encZ)) (ptrF l) i HL l where
 idx hx hy hi hj _ := yi ht hs hx hy hi (by rw [qa hj]; rfl)
 load hx hv _ := yo ha hs (cs := encZ _) (by rw [hx]; unfold ptrF; rw [hv]; rfl) rfl
theorem RdL.own {P : Program} {te ee : TypeId} (ht : P.underlying te = some (.slice ee)) (hs : ∀ w, (sizeOf ee).run P w = .ok 2 w) (ha : ∀ w, (isAgg ee).run P w = .ok true w) (i : Nat) (T : TypeId) (l : List Rng) (n : Nat) (hn : l.length = n) : RdL P te ee (.own i n) (ptrO i) i (.grow 2 T (lC l)) l where
 idx hx hy hi hj hO := Gv.idxR ht hs hx hy hi hO hn (by omega)
 load hx hv hO := Gv.loadR ha hs hx hO hv
end Go.Proofs.YtpojdepccecpgaaGreatDoor
namespace Go.Proofs.YtpojdepccecpgaaGreatDoor
open Go.Proofs.Tryz
open Go.Proofs
theorem vs_get {α : Type} [Inhabited α] (c : Enc α) : ∀ (l : List α) (t : Nat), t < l.length * c.k → (c.vs l)[t]? = some (c.val l[t / c.k]!)[t % c.k]!
 | [], t, h => by simp at h
 | x :: l, t, h => by
  have e : c.vs (x :: l) = c.val x ++ c.vs l := by unfold Enc.vs; rw [List.flatMap_cons]
  rw [e]
  by_cases ht : t < c.k
  ·rw [List.getElem?_append_left (by rw [c.len]; exact ht), Nat.div_eq_of_lt ht, Nat.mod_eq_of_lt ht, List.getElem!_cons_zero, qa (by rw [c.len]; exact ht), getElem!_pos (c.val x) t (by rw [c.len]; exact ht)]
  ·obtain ⟨s, rfl⟩ : ∃ s, t = s + c.k := ⟨t - c.k, by omega⟩
   rw [List.getElem?_append_right (by rw [c.len]; omega), c.len, Nat.add_sub_cancel, Nat.add_div_right _ c.pos, Nat.add_mod_right, List.getElem!_cons_succ]
   exact vs_get c l s (by rw [List.length_cons, Nat.add_mul, Nat.one_mul] at h; omega)
theorem madeCells_k (zl : List Value) (m : Nat) (h0 : 0 < zl.length) (h1 : ∀ u ∈ zl, u.oneCell' = true) : madeCells zl.toArray (m * zl.length) = (List.replicate m zl).flatten.toArray := by
 let c : Enc Unit := ⟨zl.length, fun _ => zl, h0, fun _ => rfl, fun _ => h1⟩
 have e : (List.replicate m zl).flatten = c.vs (List.replicate m ()) := by
  show _ = (List.replicate m ()).flatMap fun _ => zl
  rw [List.flatMap, List.map_replicate]
 rw [e]
 apply Array.ext_getElem?
 intro t
 have e3 : (c.vs (List.replicate m ())).toArray[t]? = (c.vs (List.replicate m ()))[t]? := List.getElem?_toArray
 rw [e3]
 by_cases ht : t < m * zl.length
 ·rw [vs_get c _ t (by rw [List.length_replicate]; exact ht)]
  unfold madeCells
  rw [Array.getElem?_map, Array.getElem?_range, if_pos ht]
  show some (zl.toArray[t % zl.toArray.size]!) = some (zl[t % zl.length]!)
  simp
 ·rw [Array.getElem?_eq_none (by rw [size_madeCells]; omega), List.getElem?_eq_none (by rw [c.vs_len, List.length_replicate]; show m * zl.length ≤ t; omega)]
section
variable {E : World} {P : Program} {ops : Array Oper} {K : AEnv → OL → Prop} {env : AEnv} {O : OL} {rest : List Oper} {d ty : Nat} {pos : String} {af : Array Edge} {x y : Operand} {t e : TypeId}
theorem AOps.makeZ {i : TypeInfo} {zv : Value} {m : Nat} {k1 k2 : IntKind} {l l' : Int} (zl : List Value) (ht : P.underlying t = some (.slice e)) (hi : P.info? e = some i) (hz : i.zero = some zv) (hzc : zv.cells = zl.toArray) (hk : i.size = zl.length) (h0 : 0 < zl.length) (h1 : ∀ u ∈ zl, u.oneCell' = true) (hx : aev env x = .int k1 l) (hy : aev env y = .int k2 l')
  (hl : l = (m : Int)) (hl' : l' = (m : Int)) (hb : (i.bytes : Int) * (m : Int) ≤ 281474976710656) (hm : m ≤ 281474976710656) (kk : ∀ j, AOps P E ops K rest (aupd env d (.own j m)) ((j, .grow zl.length e (List.replicate m (zl.map lit)).flatten) :: O)) :
  AOps P E ops K (Oper.mk (some d) (.makeSlice t x y) ty pos af none :: rest) env O := fun I F ρ w g1 g2 => by
 obtain ⟨L, hL, hS⟩ := g2.2
 obtain ⟨j, hj⟩ := g2.name
 have hx := evI g1 hx
 have hy := evI g1 hy
 refine q9 Z ?_
 unfold OpW
 subst hl hl'
 have hrun := run_make (P := P) w t e i zv ht hi hz k1 k2 m m (by omega) (by omega) hb (by omega)
 rw [hzc, hk, Int.toNat_natCast, madeCells_k zl m h0 h1] at hrun
 have hrun : (execOp (Go.Proofs.YtpojdepccecpgaaGreatDoor.ev ρ) (Oper.mk (some d) (.makeSlice t x y) ty pos af none)).run P w = .ok (.value (.slice (some ⟨w.heap.size, 0, none⟩) m m)) (w.alloc (.cells (List.replicate m zl).flatten.toArray e)) := by
  simp [execOp, hx, hy, hrun]
 rw [hrun]
 obtain ⟨J, e1, hle, e2, htop⟩ := hj (some w.heap.size, m)
 have hrep : RepL J (List.replicate m (zl.map lit)).flatten (List.replicate m zl).flatten := by
  have := lit_reps J (List.replicate m zl).flatten
  rwa [List.map_flatten, List.map_replicate] at this
 have hS' := hS.alloc (.cells (List.replicate m zl).flatten.toArray e)
 refine yu (fun _ _ => yz hle) _ _ _ (kk j J F _ _ ((g1.mono hle).upd d ⟨_, m, e2, rfl⟩) ⟨htop, _, ⟨[(w.heap.size, .cells (List.replicate m zl).flatten.toArray e (0, 0))], L, rfl, ⟨some w.heap.size, m, m, _, e2, hrep, (fun u hu => by
  obtain ⟨r, hr, hu⟩ := List.mem_flatten.1 hu
  rw [List.eq_of_mem_replicate hr] at hu
  exact h1 u hu), OwnS.made (by simp [Nat.mul_comm])⟩, hL.mono hle⟩, by rw [e1]; exact hS'⟩)
end
def atL (v : List Int) (x : Int) : Int := (v[x.toNat]?).getD 0
def putAll {α : Type} (v : List Int) (g : Nat → α) (acc : List α) : Nat → List α
 | 0 => acc
 | k + 1 => (putAll v g acc k).set (atL v k).toNat (g k)
theorem putAll_len {α : Type} (v : List Int) (g : Nat → α) (acc : List α) : ∀ k, (putAll v g acc k).length = acc.length
 | 0 => rfl
 | k + 1 => by rw [putAll, List.length_set, putAll_len v g acc k]
theorem putAll_get {α : Type} {v : List Int} {g : Nat → α} {acc : List α} {n : Nat} (hr : ∀ i, i < n → 0 ≤ atL v i ∧ atL v i < acc.length) (hi : ∀ i j, i < n → j < n → atL v i = atL v j → i = j) : ∀ k, k ≤ n → ∀ i, i < k → (putAll v g acc k)[(atL v i).toNat]? = some (g i)
 | 0, _, i, h => absurd h (Nat.not_lt_zero _)
 | k + 1, hk, i, h => by
  have h1 := hr i (by omega)
  have h2 := hr k (by omega)
  rw [putAll]
  by_cases e : i = k
  ·subst e
   rw [List.getElem?_set_self (by rw [putAll_len]; omega)]
  ·rw [List.getElem?_set_ne (fun q => e (hi i k (by omega) (by omega) (by omega)))]
   exact putAll_get hr hi k (by omega) i (by omega)
theorem putAll_map {α β : Type} (h : α → β) (v : List Int) (g : Nat → α) (acc : List α) : ∀ k, (putAll v g acc k).map h = putAll v (fun i => h (g i)) (acc.map h) k
 | 0 => rfl
 | k + 1 => by rw [putAll, putAll, List.map_set, putAll_map h v g acc k]
theorem putAll_all {α : Type} {v : List Int} {g : Nat → α} {acc acc' : List α} {n : Nat} (hl : acc.length = acc'.length) (hr : ∀ i, i < n → 0 ≤ atL v i ∧ atL v i < acc.length) (hi : ∀ i j, i < n → j < n → atL v i = atL v j → i = j) (ho : ∀ y, y < acc.length → ∃ i, i < n ∧ (atL v i).toNat = y) : putAll v g acc n = putAll v g acc' n := by
 apply List.ext_getElem?
 intro y
 by_cases hy : y < acc.length
 ·obtain ⟨i, h1, rfl⟩ := ho y hy
  rw [putAll_get hr hi n (Nat.le_refl _) i h1, putAll_get (by rw [← hl]; exact hr) hi n (Nat.le_refl _) i h1]
 ·rw [List.getElem?_eq_none (by rw [putAll_len]; omega), List.getElem?_eq_none (by rw [putAll_len]; omega)]
theorem flat_set {α : Type} {k : Nat} : ∀ {rows : List (List α)} {j : Nat} {r : List α}, (∀ x ∈ rows, x.length = k) → j < rows.length → r.length = k → rows.flatten.take (j * k) ++ r ++ rows.flatten.drop (j * k + k) = (rows.set j r).flatten
 | [], j, r, _, h, _ => by simp at h
 | x :: rows, 0, r, hk, _, hr => by
  have := hk x (.head _)
  rw [List.set_cons_zero, List.flatten_cons, List.flatten_cons]
  rw [Nat.zero_mul, List.take_zero, List.nil_append, Nat.zero_add, ← this, List.drop_left]
 | x :: rows, j + 1, r, hk, h, hr => by
  have hx := hk x (.head _)
  have ih := flat_set (rows := rows) (j := j) (r := r) (fun y hy => hk y (.tail _ hy)) (by simpa using h) hr
  rw [List.set_cons_succ, List.flatten_cons, List.flatten_cons, ← ih, Nat.add_mul, Nat.one_mul]
  have e1 : (x ++ rows.flatten).take (j * k + k) = x ++ rows.flatten.take (j * k) := by
   rw [List.take_append, List.take_of_length_le (by omega), hx, Nat.add_sub_cancel]
  have e2 : (x ++ rows.flatten).drop (j * k + k + k) = rows.flatten.drop (j * k + k) := by
   rw [List.drop_append, List.drop_eq_nil_of_le (by omega), hx, List.nil_append]; congr 1; omega
  rw [e1, e2]
  simp only [qc]
end Go.Proofs.YtpojdepccecpgaaGreatDoor
namespace Go.Proofs.YtpojdepccecpgaaGreatDoor
open Go.Proofs.Tryz
open Go.Proofs
open Go.Sort (Holds putRow putCells onCells flatK HoldsK PermIn SortedIn)
theorem putCells_vs {vs ys junk : List Value} (hl : ys.length = vs.length) : putCells id 0 ys.toArray (vs ++ junk).toArray = (ys ++ junk).toArray := by
 unfold putCells
 apply Array.ext_getElem?
 intro k
 simp only [Array.getElem?_mapIdx, List.getElem?_toArray, qd, true_and, Nat.zero_add, Nat.sub_zero, List.size_toArray]
 by_cases hk : k < ys.length
 ·rw [List.getElem?_append_left (by omega), List.getElem?_append_left (by omega), qa hk, qa (by omega : k < vs.length)]
  simp [hk]
 ·rw [List.getElem?_append_right (by omega), List.getElem?_append_right (by omega), hl]
  rw [hl] at hk
  simp only [hk, if_false]
  cases junk[k - vs.length]? <;> rfl
theorem flatK_list {α : Type} [Inhabited α] (c : Enc α) (d : Array α) : flatK c.val c.k d = (c.vs d.toList).toArray := by
 refine Go.Sort.ext_get! (by simp [c.vs_len]) fun t ht => ?_
 have ht : t < d.size * c.k := by simpa using ht
 rw [Go.Sort.get_flatK _ _ _ _ ht]
 have := vs_get c d.toList t (by simpa using ht)
 have h2 : (c.vs d.toList).toArray[t]? = some (c.val d.toList[t / c.k]!)[t % c.k]! := by rw [List.getElem?_toArray]; exact this
 have h3 : (c.vs d.toList).toArray[t]! = (c.val d.toList[t / c.k]!)[t % c.k]! := by rw [getElem!_def, h2]
 rw [h3]
 have h4 : d[t / c.k]! = d.toList[t / c.k]! := by rw [getElem!_def, getElem!_def, Array.getElem?_toList]
 rw [h4]
theorem SL.sortedK {α : Type} [Inhabited α] (c : Enc α) {I : Ghost} {O : List (Nat × Obj)} {E w : World} {b n : Nat} {zs : List α} {d : Array α} {junk : List Value} {T : TypeId} {os : Array Obj} (hl : d.size = zs.length) (h : SL I ((b, .cells (c.vs zs ++ junk).toArray T (0, 0)) :: O) E w) :
  SL I ((b, .cells (c.vs d.toList ++ junk).toArray T (0, 0)) :: O) E (sortWorldK c.val c.k w b 0 n d os) := by
 have hb := h.own _ (.head _)
 simp only at hb
 have hlt := lt_of_some hb
 have h1 : SL I ((b, .cells (c.vs d.toList ++ junk).toArray T (0, 0)) :: O) E (putRow id (Go.Sort.ahead w n) b 0 (flatK c.val c.k d)) := by
  rw [flatK_list]
  refine h.turn Z Z Z ?_ fun k hk => ?_
  ·show (w.heap.modify b (onCells (putCells id 0 (c.vs d.toList).toArray)))[b]? = _
   rw [Array.getElem?_modify, if_pos rfl, hb]
   simp only [Option.map_some, onCells, putCells_vs (vs := c.vs zs) (ys := c.vs d.toList) (by rw [c.vs_len, c.vs_len, Array.length_toList, hl])]
  ·show (w.heap.modify b (onCells (putCells id 0 (c.vs d.toList).toArray)))[k]? = _
   rw [Array.getElem?_modify, if_neg (fun e => hk e.symm)]
 exact h1.more rfl rfl rfl fun k hk => Go.Sort.heap_grow_old _ _ hk
theorem ACall.sortedK {α : Type} [Inhabited α] (c : Enc α) {E : World} {P : Program} {f g : FuncId} {fn : Func} {co : Code} {lt : α → α → Bool} {B : Nat} (hf : P.funcs[f]? = some fn) (hb : fn.body = some co) (hn : fn.name ≠ "runtime.NumGoroutine")
  (hC : ∀ (blk cap : Nat) (d : Array α) (w : World), HoldsK c.val c.k w blk 0 d → blk < w.heap.size → d.size < B →
   Calls P f #[.slice (some ⟨blk, 0, none⟩) d.size cap, .func (.func g) #[] #[]] w fun e w' => e = .returned (.tuple #[]) ∧ ∃ d' n os, PermIn 0 d.size d d' ∧ SortedIn lt 0 d.size d' ∧ w' = sortWorldK c.val c.k w blk 0 n d' os)
  (hN : ∀ (cap : Nat) (w : World), Calls P f #[.slice none 0 cap, .func (.func g) #[] #[]] w fun e w' => e = .returned (.tuple #[]) ∧ w' = w)
  {l : List α} {i n : Nat} {T : TypeId} (hl : l.length = n) (hB : n < B) : ACall P E f [.own i n, .fn g [] []] [(i, .grow c.k T (c.av l))] fun r O => ∃ l' : List α, r = .tup [] ∧ O = [(i, .grow c.k T (c.av l'))] ∧ l'.Perm l ∧ l'.Pairwise fun a b => lt b a = false := fun I F w vs h1 h2 => by
 obtain ⟨v, us, rfl, ⟨b, cp, e1, rfl⟩, v2, us2, rfl, ⟨va, vc, rfl, ha, hc⟩, h3⟩ := h1
 have ha : va = [] := ha
 have hc : vc = [] := hc
 have h3 : us2 = [] := h3
 subst ha hc h3
 obtain ⟨ht, L, ⟨A, B', e2, ⟨b', c', n', ws, e3, h4, h5, h6⟩, h7⟩, hS⟩ := h2
 have h7 : B' = [] := h7
 subst h7
 rw [List.append_nil] at e2
 subst e2
 simp only at e3
 rw [e1] at e3
 simp only [Option.some.injEq, Prod.mk.injEq] at e3
 obtain ⟨rfl, rfl⟩ := e3
 have h4 := c.av_un h4
 subst h4
 refine Fn.ofCalls hf hb hn ?_
 obtain ⟨g1, g2, g3⟩ := h6
 rw [c.vs_len] at g1
 have hnn : n' = n := by
  have := Nat.eq_of_mul_eq_mul_right c.pos g1
  omega
 subst hnn
 rcases g3 with ⟨ea, rfl, rfl⟩ | ⟨b2, junk, ea, rfl, hj⟩
 ·have h0 : n' = 0 := by omega
  subst h0
  have hl0 : l = [] := List.eq_nil_of_length_eq_zero hl
  subst hl0
  rw [ea]
  refine (hN 0 w).mono fun e w' ⟨he, hw⟩ => ⟨_, he, I, .tup [], [(i, .grow c.k T (c.av ([] : List α)))], .refl _, ⟨[], Z, Z⟩, ?_, [], Z, Z, .refl _, .nil⟩
  subst hw
  exact ⟨ht, [], ⟨[], [], rfl, ⟨b, 0, 0, [], e1, rfl, by simp, by rw [ea]; exact OwnS.nil c.k T⟩, rfl⟩, hS⟩
 ·rw [ea]
  have hS2 : SL I.k ((b2, .cells (c.vs l ++ junk).toArray T (0, 0)) :: F) E w := hS
  have hH : HoldsK c.val c.k w b2 0 l.toArray := fun j hjl => by
   rw [flatK_list] at hjl ⊢
   have hj2 : j < (c.vs l).length := by simpa using hjl
   have hbk := hS2.own _ (.head _)
   simp only at hbk
   refine ⟨?_, ?_⟩
   ·rw [hS2.cell_own, Nat.zero_add, List.getElem?_toArray, List.getElem?_append_left hj2, qa hj2]
    simp [hj2]
   ·simp [World.frozen?, hbk]
  have := hC b2 cp l.toArray w hH (lt_of_some (hS2.own _ (.head _))) (by simp; omega)
  rw [List.size_toArray, hl] at this
  refine this.mono fun e w' ⟨he, d', k, os, hp, hs, hw⟩ => ?_
  obtain ⟨p1, _, p3⟩ := hp
  have p1 : d'.size = l.length := p1
  have p4 : d'.toList.Perm l := by
   have e1 : d'.extract 0 n' = d' := by
    have : n' = d'.size := by omega
    rw [this]; exact Array.extract_size
   have e2 : l.toArray.extract 0 n' = l.toArray := by
    have : n' = l.toArray.size := by rw [List.size_toArray, hl]
    rw [this]; exact Array.extract_size
   rw [e1, e2] at p3
   exact p3
  refine ⟨_, he, I, .tup [], [(i, .grow c.k T (c.av d'.toList))], .refl _, ⟨[], Z, Z⟩, ?_, d'.toList, Z, Z, p4, ?_⟩
  ·subst hw
   refine ⟨ht, [(b2, .cells (c.vs d'.toList ++ junk).toArray T (0, 0))], ⟨_, [], by simp, ⟨b, cp, n', c.vs d'.toList, e1, by rw [c.av_eq]; exact lit_reps _ _, c.vs_one _, by rw [c.vs_len]; simp only [Array.length_toList]; rw [p1, hl], g2, .inr ⟨b2, junk, ea, rfl, by rw [qg, c.vs_len] at hj ⊢; simp only [Array.length_toList]; rw [p1]; exact hj⟩⟩, rfl⟩, ?_⟩
   exact SL.sortedK c p1 hS2
  ·rw [List.pairwise_iff_getElem]
   intro x y hx hy hxy
   have hy2 : y < d'.size := by simpa using hy
   have := hs x y (qd _) hxy (by omega)
   rw [getElem!_pos d' y hy2, getElem!_pos d' x (by omega)] at this
   simpa using this
end Go.Proofs.YtpojdepccecpgaaGreatDoor
namespace Go.Proofs
open Go.Shelf
def Tryz.sortPr_ren : Go.Shelf.Ren := ⟨fun | 6 => 86 | 15 => 120 | 14 => 123 | 28 => 156 | 29 => 157 | 20 => 158 | 21 => 159 | 22 => 160 | 23 => 161 | 24 => 162 | 25 => 163 | 26 => 164 | 27 => 165 | 46 => 183 | 47 => 179 | 48 => 180 | 49 => 184 | 50 => 185 | 57 => 194 | n => n, fun | 22 => 139 | 24 => 141 | 25 => 144 | 3 => 3 | 39 => 132 | 0 => 0 | 53 => 210 | 55 => 53 | 4 => 4 | 46 => 204 | 45 => 203 | 50 => 145 | 5 => 5 | 9 => 9 | 66 => 228 | 70 => 232 | 76 => 247 | 77 => 248 | n => n, fun | n => n⟩
theorem Tryz.sortPr : Go.Proofs.SlLaysF0.n6 prog Tryz.sortPr_ren := {
 mixed := by kernel_rfl
 f6 := ⟨Tryz.f86.name, by decide, func86.trans (congrArg some (by kernel_rfl))⟩
 f14 := ⟨Tryz.f123.name, by decide, func123.trans (congrArg some (by kernel_rfl))⟩
 f15 := func120.trans (congrArg some (by kernel_rfl))
 f20 := ⟨Tryz.f158.name, by decide, func158.trans (congrArg some (by kernel_rfl))⟩
 f21 := ⟨Tryz.f159.name, by decide, func159.trans (congrArg some (by kernel_rfl))⟩
 f22 := ⟨Tryz.f160.name, by decide, func160.trans (congrArg some (by kernel_rfl))⟩
 f23 := ⟨Tryz.f161.name, by decide, func161.trans (congrArg some (by kernel_rfl))⟩
 f24 := ⟨Tryz.f162.name, by decide, func162.trans (congrArg some (by kernel_rfl))⟩
 f25 := ⟨Tryz.f163.name, by decide, func163.trans (congrArg some (by kernel_rfl))⟩
 f26 := ⟨Tryz.f164.name, by decide, func164.trans (congrArg some (by kernel_rfl))⟩
 f27 := ⟨Tryz.f165.name, by decide, func165.trans (congrArg some (by kernel_rfl))⟩
 f28 := func156.trans (congrArg some (by kernel_rfl))
 f29 := func157.trans (congrArg some (by kernel_rfl))
 f46 := ⟨Tryz.f183.name, by decide, func183.trans (congrArg some (by kernel_rfl))⟩
 f47 := func179.trans (congrArg some (by kernel_rfl))
 f48 := func180.trans (congrArg some (by kernel_rfl))
 f49 := ⟨Tryz.f184.name, by decide, func184.trans (congrArg some (by kernel_rfl))⟩
 f50 := ⟨Tryz.f185.name, by decide, func185.trans (congrArg some (by kernel_rfl))⟩
 f57 := ⟨Tryz.f194.name, by decide, func194.trans (congrArg some (by kernel_rfl))⟩
 t0 := underlying0
 a0 := isAgg0
 z0 := sizeOf0
 v0 := zeroValue0
 t3 := underlying3
 a3 := isAgg3
 z3 := sizeOf3
 v3 := zeroValue3
 t4 := underlying4
 a4 := isAgg4
 z4 := sizeOf4
 v4 := zeroValue4
 t5 := underlying5
 a5 := isAgg5
 z5 := sizeOf5
 v5 := zeroValue5
 t9 := underlying9
 a9 := isAgg9
 z9 := sizeOf9
 v9 := zeroValue9
 t22 := underlying139
 a22 := isAgg139
 z22 := sizeOf139
 v22 := zeroValue139
 t25 := underlying144
 a25 := isAgg144
 z25 := sizeOf144
 v25 := zeroValue144
 t39 := underlying132
 a39 := isAgg132
 z39 := sizeOf132
 v39 := zeroValue132
 t45 := underlying203
 a45 := isAgg203
 z45 := sizeOf203
 v45 := zeroValue203
 t46 := underlying204
 a46 := isAgg204
 z46 := sizeOf204
 v46 := zeroValue204
 t50 := underlying145
 a50 := isAgg145
 z50 := sizeOf145
 v50 := zeroValue145
 t53 := underlying210
 a53 := isAgg210
 z53 := sizeOf210
 v53 := zeroValue210
 t55 := underlying53
 a55 := isAgg53
 z55 := sizeOf53
 v55 := zeroValue53
 t66 := underlying228
 a66 := isAgg228
 z66 := sizeOf228
 v66 := zeroValue228
 t70 := underlying232
 a70 := isAgg232
 z70 := sizeOf232
 v70 := zeroValue232
 t76 := underlying247
 a76 := isAgg247
 z76 := sizeOf247
 v76 := zeroValue247
 t77 := underlying248
 a77 := isAgg248
 z77 := sizeOf248
 v77 := zeroValue248 }
end Go.Proofs
namespace Go.Proofs.YtpojdepccecpgaaGreatDoor
open Go.Proofs.Tryz
open Go.Proofs Go.Lib Go.Shelf Go.RowKit
variable {E : World}
set_option maxRecDepth 20000
theorem right_spec (f : PFunc) (hf : small f) (hL : Letters E) : AFun prog E 46 [.agg (encF f)] (.bool (typedB f)) := by
 refine zt func46 Z (by decide) Z<|zSr<|yc (cs := _) Z Z Z<|zVzAb Z<|z6<|zSr<|zVGvloadWF jp j9 Z Z<|zg (Typed_spec f hf hL) Z<|zVGveqlI Z Z<|zVzAb Z<|z6<|zk<|zm (x := .bool _) Z ?_
 cases typedB f <;> rfl
theorem typedB_ends {f : PFunc} (h : typedB f = true) : EndsOk f := by
 unfold typedB at h
 rw [qo, shapedB_eq] at h
 exact (of_decide_eq_true h.1).ends
theorem orderO_spec (f : PFunc) (hE : EndsOk f) (hn : f.blocks.length ≤ 1000) : AFun prog E 83 [.agg (encF f)] (.fro 1 ((orderT (EndsOf f) f.blocks.length).map encI)) :=
 order_spec f hE (by omega) fun l i T h => reverse_own l i T h
theorem orderX_spec (f : PFunc) (hf : small f) (hL : Letters E) (ht : typedB f = true) : AFun prog E 53 [.agg (encF f)] (.fro 1 ((orderT (EndsOf f) f.blocks.length).map encI)) := by
 have hn := hf.2.2.1
 refine zt func53 Z (by decide) Z<|zSr<|yc (cs := _) Z Z Z<|z8 (zAr Z)<|z6<|ze<|zSr<|zVGvloadWF jp j9 Z Z<|zg (right_spec f hf hL) Z<|zVGvnot Z<|z6<|yl Z (by rw [ht]; rfl)<|zj<|zSr<|zVGvloadWF jp j9 Z Z<|zg (orderO_spec f (typedB_ends ht) (by omega)) Z<|z8 (zAf Z)<|z6<|zk<|zm (x := .fro _ _) Z ?_
 rfl
def encB (x : Bool) : List AV := [.bool x]
theorem reach_spec (f : PFunc) (hE : EndsOk f) (hn : f.blocks.length ≤ 1000) : AFun prog E 48 [.agg (encF f)] (.fro 1 ((reachB (EndsOf f) f.blocks.length).map encB)) := by
 have hG := hE.grph
 have hol := order_len hG
 refine zt func48 Z (by decide) Z<|zSr<|yc (cs := _) Z Z Z<|z8 (zAr Z)<|z6<|zSr<|zVzFF jd Z jw Z Z<|zVzLf Z3 Z<|zVGvlenM jc Z<|AOps.makeB (m := f.blocks.length) Y1 type4 Z Z Z Z Z (by simp) (by simp) (by show (1 : Int) * _ ≤ _; omega) (by omega)<|fun i9 => z8 (zAo Z)<|z6<|ze<|zSr<|zVGvloadWF jp j9 Z Z<|zg (orderO_spec f hE hn) Z<|zVGvlenM j6 Z<|zVzMi Z<|z6<|zi<|y7 (γ := Nat) [3, 11, 12] (fun k => [(13, .int .i64 k)]) (fun k => [(i9, .grow 1 4 (cB (setsT (List.replicate f.blocks.length false) ((orderT (EndsOf f) f.blocks.length).take k))))]) (fun k => k ≤ (orderT (EndsOf f) f.blocks.length).length) (fun k => (orderT (EndsOf f) f.blocks.length).length - k) 0 zR1 zLe (qd _) ?_
 rintro k hk
 refine zSr<|zVGvlss Z Z<|z6<|ze<|y2 Z (fun ck=>?_) (fun ck=>?_)
 ·have hk2 : k < (orderT (EndsOf f) f.blocks.length).length := by simp at ck; omega
  obtain ⟨b, hb⟩ : ∃ b, (orderT (EndsOf f) f.blocks.length)[k] = b := ⟨_, rfl⟩
  have hr := order_rng hG.toEOk (hb ▸ qe hk2)
  refine zj<|ze<|zi<|zSr<|z8 (zIM k j6 j8 Z Z Z (by rw [qa hk2, hb])) ?_
  refine zVzLi jl Z<|zVzAi Z<|z6<|zRg<|z8 (zMo Z)<|zVzMi Z<|z8 (q0 (j := b.toNat) Y1 Y0 Z Z (by omega) ⟨_, .head⟩ (by rw [cB_len, setsT_len]; simp) (by omega))<|AOps.storeB (j := b.toNat) Y0 Z Z .head (by rw [setsT_len]; simp; omega)<|z6<|zRg<|zVzAd Z Z<|zVzMi Z<|z6 ?_
  exact ⟨k + 1, zR3, zR1, ⟨_, (.refl _), by rw [qb hk2, setsT_snoc, hb]⟩, hk2, by omega⟩
 ·have hkn : k = (orderT (EndsOf f) f.blocks.length).length := by simp at ck; omega
  subst hkn
  rw [qf]
  refine y5<|zSr<|z8 (zMo Z)<|z8 (zAo Z)<|z6<|y4 (GStep.knowB (t := 2) Z .head (by rw [setsT_len]; simp))<|zk<|zm (x := .fro _ _) Z ?_
  rfl
theorem cloneO (xs : List Int) (hl : xs.length ≤ 1000) : ACall prog E 27 [.fro 1 (xs.map encI)] [] (fun x O' => ∃ i : Nat, x = .own i xs.length ∧ O' = [(i, .grow 1 3 (cI xs))]) := by
 refine zt func27 Z (by decide) Z<|zSr<|z8 (zAr Z)<|z6<|ze<|zSr<|zVzMf Z<|AOps.isNil j6 Z Z (fun hnil=>?_) ?_
 ·have hx : xs = [] := by simpa using hnil
  subst hx
  refine z6<|yq Z Z<|zSr<|z8 (zAr Z)<|z6<|zk ?_
  repeat (first | refine aseqQ_ret ?_ | refine ablockQ_ret ?_)
  refine adopt_fin (s := 2) (k := 1) (T := 3) Z (fun i=>?_)
  refine zm (x := .own _ _) Z ?_
  exact ⟨i, rfl, rfl⟩
 ·refine z6<|yl Z Z<|zj<|zSr<|yj (k := 1) j6 jz<|fun i5 => zVzMf Z<|zq (k := 1) j6 jz Z Z Z Z Z (fun _ => .head) (by simp) (by decide) (all_cell (fun _ => Z) xs) (by show (_ + _) * 8 ≤ _; simp <;> omega) (by simp <;> omega)<|fun i7 => z8 (zAo Z)<|z6<|zk<|zm (x := .own _ _) Z ?_
  exact ⟨i7, (by simp), by rw [← cI_flat]; rfl⟩
theorem predsR_row (f : PFunc) {k : Nat} (h : k < f.blocks.length) : (predsR f f.blocks.length)[k]? = some (predsT (EndsOf f) f.blocks.length (k : Int)) := by unfold predsR; rw [qi, List.getElem?_range h]; rfl
theorem joined_spec (f : PFunc) (hE : EndsOk f) (hf : small f) : AFun prog E 47 [.agg (encF f)] (.bool (joinedB f)) := by
 have hn := hf.2.2.1
 refine zt func47 Z (by decide) Z<|zSr<|yc (cs := _) Z Z Z<|zVzAb Z<|z6<|zSr<|zVGvloadWF jp j9 Z Z<|zg (preds_spec f hE (by omega)) Z<|z8 (zAf Z)<|z6<|ze<|zSr<|zVzFF jd Z jw Z Z<|zVzLf Z3 Z<|zVGvlenM jc Z<|zVzMi Z<|z6<|zi<|y7 (γ := Nat) [3, 12, 13] (fun k => [(14, .int .i64 k)]) (fun k => []) (fun k => k ≤ f.blocks.length ∧ (List.range k).all (blkJ f) = true) (fun k => f.blocks.length - k) 0 zR1 zLe (⟨qd _, Z⟩) ?_
 rintro k ⟨hk, hall⟩
 refine zSr<|zVGvlss Z Z<|z6<|ze<|y2 Z (fun ck=>?_) (fun ck=>?_)
 ·have hk2 : k < f.blocks.length := by simp at ck; omega
  obtain ⟨b, hbk⟩ : ∃ b, f.blocks[k] = b := ⟨_, rfl⟩
  have hget : f.blocks[k]? = some b := by rw [qa hk2, hbk]
  obtain ⟨hb0, hb1, hb2, hb3, hb4⟩ := hf.2.2.2.2 b (hbk ▸ qe hk2)
  refine zj<|ze<|zi<|zSr<|zVzMi Z<|z8 (zIM k jc jm Z Z Z hget)<|zVGvloadWF Ze jm Z Z<|zo (cs := [.str ⟨#[]⟩, .raw (.slice none 0 0), .raw (.slice none 0 0), .int .i64 0, .int .i64 0, .int .i64 0, .int .i64 0]) Z0 Z Z<|fun i5 => zVzAi Z<|zh jm Z Z Z Z Z Z .head Z<|zd (yf (t := 5) Z .head)<|z6<|zSr<|zVzFF j7 Z Z6 Z Z<|zVzLf Zk Z<|zVGvlenM jo Z<|zVzMi Z<|z6<|zi<|y7 (γ := Nat) [3, 4, 12, 13, 14, 20, 21] (fun j => [(22, .int .i64 j)]) (fun j => []) (fun j => j ≤ b.phis.length ∧ (b.phis.take j).all (phJ f k) = true) (fun j => b.phis.length - j) 0 zR1 zLe (⟨qd _, Z⟩) ?_
  rintro j ⟨hj, hjall⟩
  refine zSr<|zVGvlss Z Z<|z6<|ze<|y2 Z (fun cj=>?_) (fun cj=>?_)
  ·have hj2 : j < b.phis.length := by simp at cj; omega
   have hpf := (hb3 _ (qe hj2)).2
   refine zj<|ze<|zi<|zSr<|z8 (zIM j jo ju Z Z Z (qa hj2))<|zVGvloadWF Zj ju Z Z<|zo (cs := [.int .i64 0, .raw (.slice none 0 0), .raw (.slice none 0 0)]) Z9 Z Z<|fun i7 => zh ju Z Z Z Z Z Z .head Z<|zd (yf (t := 7) Z .head)<|z6<|zSr<|zVzFF jj Z ji Z Z<|zVzLf jq Z<|yv Z (yb (.rest _)) (cloneO b.phis[j].from_ hpf) ?_
   rintro r28 O28 ⟨i8, rfl, rfl⟩
   refine z8 (zAo Z)<|z6<|zSr<|z8 (zMo Z)<|yv Z (yb (.l (.rest _))) (sort_own b.phis[j].from_ i8 _ (by omega)) ?_
   rintro r30 O30 ⟨rfl, rfl⟩
   refine z6<|y4 (GStep.knowI (t := 8) Z .head (by rw [(sortI_perm _).length_eq]))<|zSr<|zVzMf Z<|zVzMf Z<|zVzMi Z<|z8 (zIM k underlying97 ji Z Z Z (predsR_row f hk2))<|zVzLf jq Z<|zg (equalI_spec (sortI b.phis[j].from_) (predsT (EndsOf f) f.blocks.length (k : Int)) (by unfold okL; rw [(sortI_perm _).length_eq]; omega)) Z<|zVGvnot Z<|z6<|y3 Z (fun cq=>?_) (fun cq=>?_)
   ·refine zSr<|zVzAb Z<|z6<|zk<|zm (x := .bool _) Z ?_
    rw [show joinedB f = false from range_all_bad hk2 (by rw [blkJ_at hget]; exact Bool.eq_false_iff.2 (all_bad hj2 (by simpa [phJ] using cq)))]
   ·refine zj<|zRg<|zVzAd Z Z<|zVzMi Z<|z6 ?_
    exact ⟨j + 1, zR7, zR1, zLe, ⟨hj2, all_take hj2 hjall (by simpa [phJ] using cq)⟩, by omega⟩
  ·have hjn : j = b.phis.length := by simp at cj; omega
   subst hjn
   rw [qf] at hjall
   refine y5<|zRg<|zVzAd Z Z<|zVzMi Z<|z6 ?_
   exact ⟨k + 1, zR3, zR1, zLe, ⟨hk2, range_all_succ hall (by rw [blkJ_at hget]; exact hjall)⟩, by omega⟩
 ·have hkn : k = f.blocks.length := by simp at ck; omega
  subst hkn
  refine y5<|zSr<|zVzAb Z<|z6<|zk<|zm (x := .bool _) Z ?_
  rw [show joinedB f = true from hall]
theorem joinedX_spec (f : PFunc) (hf : small f) (hL : Letters E) : AFun prog E 23 [.agg (encF f)] (.int .i64 (if (typedB f && joinedB f) = true then 0 else 3)) := by
 refine zt func23 Z (by decide) Z<|zSr<|yc (cs := _) Z Z Z<|zVzAi Z<|z6<|ze<|zSr<|zVGvloadWF jp j9 Z Z<|zg (right_spec f hf hL) Z<|zVGvnot Z<|zVzMb Z<|zy (s := 6) Z (fun ct=>?_) (fun ct=>?_)
 ·refine z7 Z Z ct<|z7 Z Z ct<|z7 Z Z ct<|zVzPt Z ct Z<|z6<|yq Z Z<|zSr<|zVzAi Z<|z6<|zk<|zm (x := .int _ _) Z ?_
  rw [show typedB f = false by simpa using ct]; rfl
 ·have ht : typedB f = true := by simpa using ct
  refine za Z Z ct<|zVGvloadWF jp j9 Z Z<|za Z Z ct<|zg (joined_spec f (typedB_ends ht) hf) Z<|za Z Z ct<|zVGvnot Z<|zVzPf Z ct Z<|z6<|y3 Z (fun cj=>?_) (fun cj=>?_)
  ·refine zSr<|zVzAi Z<|z6<|zk<|zm (x := .int _ _) Z ?_
   rw [show joinedB f = false by simpa using cj]; simp
  ·refine zj<|zSr<|zVzAi Z<|z6<|zk<|zm (x := .int _ _) Z ?_
   rw [ht, show joinedB f = true by simpa using cj]; rfl
end Go.Proofs.YtpojdepccecpgaaGreatDoor
namespace Go.Proofs.YtpojdepccecpgaaGreatDoor
open Go.Proofs.Tryz
section
variable {S : Int → List Int} {at_ : Int → Int} {V : List Int} {N : Int → Int}
end
section
variable {S : Int → List Int} {at_ V : List Int} {preds : Int → List Int} {n : Nat}
end
section
variable {E : Int → List Int} {n : Nat}
end
end Go.Proofs.YtpojdepccecpgaaGreatDoor
namespace Go.Proofs.YtpojdepccecpgaaGreatDoor
open Go.Proofs.Tryz
open Go.Proofs
variable {E : World}
set_option maxRecDepth 20000
end Go.Proofs.YtpojdepccecpgaaGreatDoor
namespace Go.Proofs.YtpojdepccecpgaaGreatDoor
open Go.Proofs.Tryz
open Go.Proofs
variable {E : World}
set_option maxRecDepth 20000
end Go.Proofs.YtpojdepccecpgaaGreatDoor
namespace Go.Proofs.YtpojdepccecpgaaGreatDoor
open Go.Proofs.Tryz
section
variable {E : World} {P : Program} {env : AEnv} {O O' O'' : OL}
theorem ACall.weak {f : FuncId} {args : List AV} {R : AV → OL → Prop} {y : AV} (h : ACall P E f args [] R) (hr : ∀ x O, R x O → O = [] ∧ ∀ I v, RepV I x v → RepV I y v) : AFun P E f args y := fun I F w vs h1 h2 =>
 (h I F w vs h1 h2).mono fun v w' ⟨J, x, O', a, b, c, d⟩ => by
  obtain ⟨e, hv⟩ := hr x O' d
  subst e
  exact ⟨J, y, [], a, hv _ _ b, c, rfl⟩
variable {d ty : Nat} {pos : String} {af : Array Edge} {x y z : Operand} {t u e T : TypeId}
end
end Go.Proofs.YtpojdepccecpgaaGreatDoor
namespace Go.Proofs.YtpojdepccecpgaaGreatDoor
open Go.Proofs.Tryz
open Go.Proofs
variable {E : World}
set_option maxRecDepth 20000
def FrI (n : Nat) (rows : List (List Int)) : Prop := rows.length = n ∧ ∀ r ∈ rows, r.Nodup ∧ ∀ x ∈ r, 0 ≤ x ∧ x < n
theorem FrI.len {n : Nat} {rows : List (List Int)} (h : FrI n rows) {r : List Int} (hr : r ∈ rows) : r.length ≤ n := by
 have := nodup_len r (intsTo n) (h.2 r hr).1 fun x hx => mem_intsTo.2 ((h.2 r hr).2 x hx)
 rwa [intsTo_len] at this
theorem FrI.push {n : Nat} {rows : List (List Int)} (h : FrI n rows) {j : Nat} (hj : j < rows.length) {b : Int} (h0 : 0 ≤ b) (hb : b < n) (hn : b ∉ rows[j]) : FrI n (rows.set j (rows[j] ++ [b])) := by
 refine ⟨by rw [List.length_set]; exact h.1, fun r hr => ?_⟩
 rcases List.mem_or_eq_of_mem_set hr with hr | rfl
 ·exact h.2 r hr
 ·obtain ⟨g1, g2⟩ := h.2 _ (qe hj)
  refine ⟨List.nodup_append.2 ⟨g1, by simp, fun x hx y hy e => ?_⟩, fun x hx => ?_⟩
  ·simp at hy; subst hy; subst e; exact hn hx
  ·rcases List.mem_append.1 hx with hx | hx
   ·exact g2 x hx
   ·simp at hx; subst hx; exact ⟨h0, hb⟩
theorem FrI.begin (n : Nat) : FrI n (List.replicate n []) := ⟨by simp, fun r hr => by rw [List.eq_of_mem_replicate hr]; exact ⟨by simp, fun x hx => by cases hx⟩⟩
section
variable {S : Int → List Int} {n : Nat} (hG : Grph S n)
include hG
end
end Go.Proofs.YtpojdepccecpgaaGreatDoor
namespace Go.Proofs.YtpojdepccecpgaaGreatDoor
open Go.Proofs.Tryz
open Go.Proofs
variable {E : World}
set_option maxRecDepth 20000
section
variable {S : Int → List Int} {n : Nat} (hG : Grph S n)
include hG
end
end Go.Proofs.YtpojdepccecpgaaGreatDoor
namespace Go.Proofs.YtpojdepccecpgaaGreatDoor
open Go.Proofs.Tryz
open Go.Proofs Go.Lib Go.Shelf Go.RowKit
variable {E : World}
set_option maxRecDepth 20000
end Go.Proofs.YtpojdepccecpgaaGreatDoor
namespace Go.Proofs.YtpojdepccecpgaaGreatDoor
open Go.Proofs.Tryz
open Go.Proofs Go.Lib Go.Shelf Go.RowKit
variable {E : World}
set_option maxRecDepth 20000
theorem small.evs {f : PFunc} (hf : small f) {k : Nat} (hk : k ≤ f.blocks.length) : (evTo f k).length ≤ 2000000 := by
 have h1 := evTo_len (m := 2000) (fun b hb => by have := hf.2.2.2.2 b hb; have h2 := this.2.1; have h3 := this.2.2.1; omega) k hk
 have := hf.2.2.1
 omega
end Go.Proofs.YtpojdepccecpgaaGreatDoor
namespace Go.Proofs.YtpojdepccecpgaaGreatDoor
open Go.Proofs.Tryz
open Go.Proofs Go.Lib Go.Shelf Go.RowKit
variable {E : World}
set_option maxRecDepth 20000
end Go.Proofs.YtpojdepccecpgaaGreatDoor
namespace Go.Proofs.YtpojdepccecpgaaGreatDoor
open Go.Proofs.Tryz
open Go.Proofs Go.Lib Go.Shelf Go.RowKit
variable {E : World}
set_option maxRecDepth 20000
end Go.Proofs.YtpojdepccecpgaaGreatDoor
namespace Go.Proofs.YtpojdepccecpgaaGreatDoor
open Go.Proofs.Tryz
open Go.Proofs Go.Lib Go.Shelf Go.RowKit
variable {E : World}
set_option maxRecDepth 20000
end Go.Proofs.YtpojdepccecpgaaGreatDoor
namespace Go.Proofs.YtpojdepccecpgaaGreatDoor
open Go.Proofs.Tryz
open Go.Proofs Go.Lib Go.Shelf Go.RowKit
variable {E : World}
set_option maxRecDepth 20000
end Go.Proofs.YtpojdepccecpgaaGreatDoor
namespace Go.Proofs.YtpojdepccecpgaaGreatDoor
open Go.Proofs.Tryz
open Go.Proofs Go.Lib Go.Shelf Go.RowKit
variable {E : World}
set_option maxRecDepth 20000
end Go.Proofs.YtpojdepccecpgaaGreatDoor
namespace Go.Proofs.YtpojdepccecpgaaGreatDoor
open Go.Proofs.Tryz
open Go.Proofs Go.Lib Go.Shelf Go.RowKit
variable {E : World}
set_option maxRecDepth 20000
end Go.Proofs.YtpojdepccecpgaaGreatDoor
namespace Go.Proofs.YtpojdepccecpgaaGreatDoor
open Go.Proofs.Tryz
open Go.Proofs Go.Lib Go.Shelf Go.RowKit
variable {E : World}
set_option maxRecDepth 20000
theorem rof_spec (f : PFunc) (v : Int) (hv : hasV f v = true) : AFun prog E 72 [.agg (encF f), .int .i64 v] (.int .i64 (kindV f v)) := by
 obtain ⟨x, hx, hv2, hk⟩ := hasV_get hv
 rw [hk]
 refine zt func72 Z (by decide) Z<|zSr<|yc (cs := _) Z Z Z<|zVzAi Z<|z6<|zSr<|zVzFF jd Z Zb Z Z<|zVzLf Zh Z<|zVzMi Z<|z8 (zIM v.toNat jk Z2 Z Z hv2 hx)<|zVzFF Z5 Z Yg Z Z<|zVzLi isAgg56 Z<|zVzAi Z<|z6<|zk<|zm (x := .int _ _) Z ?_
 rfl
theorem rtype_spec (c : Int) : AFun prog E 73 [.int .u8 c] (.int .i64 (typeOf c)) := by
 refine zt func73 Z (by decide) Z<|zSr<|zVzAi Z<|z6<|ze<|zSr<|zVzMi Z<|z6<|zi<|zSr<|zVGveqlI Z Z<|zVzAb Z<|z6<|y3 Z (fun c1=>?_) (fun c1=>?_)
 ·refine zSr<|zVzAi Z<|z6<|zk<|zm (x := .int _ _) Z ?_
  unfold typeOf; simp_all
 ·refine zSr<|zVGveqlI Z Z<|zVzAb Z<|z6<|y3 Z (fun c2=>?_) (fun c2=>?_)
  ·refine zSr<|zVzAi Z<|z6<|zk<|zm (x := .int _ _) Z ?_
   unfold typeOf; simp_all
  ·refine zj<|zSr<|zVzAi Z<|z6<|zk<|zm (x := .int _ _) Z ?_
   unfold typeOf; simp_all
theorem copy_word : ∀ j : Nat, j < 27 → decide ((kRow (j : Int)).1 = ⟨#[99, 111, 112, 121]⟩) = decide (j = 1) := by decide
theorem copy_op {op : Int} (h : 0 ≤ op ∧ op ≤ 26) : ((kRow op).1 = ⟨#[99, 111, 112, 121]⟩) ↔ op = 1 := by
 have h1 := copy_word op.toNat (by omega)
 rw [qp h.1] at h1
 constructor
 ·intro e
  have : decide (op.toNat = 1) = true := by rw [← h1]; exact qm e
  have := of_decide_eq_true this
  omega
 ·intro e
  have h2 : op.toNat = 1 := by omega
  have : decide ((kRow op).1 = ⟨#[99, 111, 112, 121]⟩) = true := by rw [h1]; exact qm h2
  exact of_decide_eq_true this
theorem kRow_get {op : Int} (h : 0 ≤ op ∧ op ≤ 26) : kindT[op.toNat]? = some (kRow op) := by
 unfold kRow
 have hl : op.toNat < kindT.length := by have : kindT.length = 27 := rfl; omega
 rw [if_pos h.1, qa hl]; rfl
def wantL (f : PFunc) (x : PInst) : List Int := if x.op = 1 then [kindV f x.dst] else takesL x.op
theorem wantL_len {f : PFunc} {x : PInst} (h : InstF f x) : x.args.length = (wantL f x).length := by
 rw [h.len]
 unfold wantL
 split
 ·rename_i e; rw [e]; rfl
 ·rfl
theorem instT_want {f : PFunc} {x : PInst} (h : InstF f x) : instT f x = (decide (x.args.map (kindV f) = wantL f x) && (!makesB x.op || (decide (x.op = 1) || decide (kindV f x.dst = makesT x.op)))) := by
 unfold instT wantL
 by_cases e : x.op = 1
 ·have hl := h.len
  rw [e, show (takesL 1).length = 1 from rfl] at hl
  obtain ⟨a, ha⟩ := List.length_eq_one_iff.1 hl
  rw [if_pos e, if_pos e, ha]
  simp [e]
  exact eq_comm
 ·rw [if_neg e, if_neg e]; simp [e]
theorem takes_byte {op : Int} {m : Nat} (h : m < (takesL op).length) : ∃ c : UInt8, (kRow op).2.1.data[m]? = some c ∧ (takesL op)[m] = typeOf (c.toNat : Int) := by
 have h1 : m < (kRow op).2.1.data.size := by rw [takes_len] at h; exact h
 have e : (takesL op)[m]? = ((kRow op).2.1.data.toList[m]?).map fun b => typeOf b.toNat := by unfold takesL; rw [qi]
 rw [qa h, Array.getElem?_toList, Array.getElem?_eq_getElem h1] at e
 exact ⟨(kRow op).2.1.data[m], by rw [Array.getElem?_eq_getElem h1], by simpa using e⟩
theorem makes_byte {op : Int} (h : ¬ (kRow op).2.2 = ⟨#[]⟩) : ∃ c : UInt8, (kRow op).2.2.data[0]? = some c ∧ makesT op = typeOf (c.toNat : Int) := by
 unfold makesT
 generalize (kRow op).2.2 = m at h ⊢
 obtain ⟨⟨l⟩⟩ := m
 cases l with
 | nil => exact absurd rfl h
 | cons c l => exact ⟨c, by simp, rfl⟩
set_option linter.defProp false
def y8 := @AOps.makeZ
end Go.Proofs.YtpojdepccecpgaaGreatDoor
