/- A block of numbers that is looked at by its place: slices of it, copies within it. No conditions but bounds. -/
import Derived.Test.YtpojdepccecpgaaGreatDoorHd
import Derived.Test.YtpojdepccecpgaaGreatDoorHc
import Derived.Sort.Grow
import Derived.Laws.CopyRow
set_option linter.unusedVariables false
set_option linter.unusedSimpArgs false
set_option linter.unusedSectionVars false
namespace Go.Proofs.YtpojdepccecpgaaGreatDoor
open Go.Proofs.Tryz
def cI (l : List Int) : List AV := l.map (AV.int .i64)
def cB (l : List Bool) : List AV := l.map AV.bool
theorem cI_len (l : List Int) : (cI l).length = l.length := by simp [cI]
theorem cB_len (l : List Bool) : (cB l).length = l.length := by simp [cB]
theorem cI_flat (l : List Int) : (l.map fun x => [AV.int .i64 x]).flatten = cI l := by
 induction l with
 | nil => rfl
 | cons x l ih => simp only [List.map_cons, List.flatten_cons, ih]; rfl
theorem cB_flat (l : List Bool) : (l.map fun x => [AV.bool x]).flatten = cB l := by
 induction l with
 | nil => rfl
 | cons x l ih => simp only [List.map_cons, List.flatten_cons, ih]; rfl
theorem cI_cell (l : List Int) : (cI l).all AV.cell = true := by
 unfold cI; rw [List.all_map]; exact List.all_eq_true.2 fun _ _ => rfl
theorem cI_app (l m : List Int) : cI l ++ cI m = cI (l ++ m) := by simp [cI]
theorem cI_set (l : List Int) (j : Nat) (v : Int) : (cI l).set j (.int .i64 v) = cI (l.set j v) := by unfold cI; rw [List.map_set]
theorem cB_set (l : List Bool) (j : Nat) (v : Bool) : (cB l).set j (.bool v) = cB (l.set j v) := by unfold cB; rw [List.map_set]
theorem cI_drop {l : List Int} {j : Nat} {v : Int} (h : l[j]? = some v) : (cI l).drop j = .int .i64 v :: (cI l).drop (j + 1) := by
 obtain ⟨hj, e⟩ := List.getElem?_eq_some_iff.1 h
 rw [List.drop_eq_getElem_cons (by rw [cI_len]; exact hj)]
 unfold cI
 rw [List.getElem_map, e]
theorem cB_drop {l : List Bool} {j : Nat} {v : Bool} (h : l[j]? = some v) : (cB l).drop j = .bool v :: (cB l).drop (j + 1) := by
 obtain ⟨hj, e⟩ := List.getElem?_eq_some_iff.1 h
 rw [List.drop_eq_getElem_cons (by rw [cB_len]; exact hj)]
 unfold cB
 rw [List.getElem_map, e]
theorem cI_rep (n : Nat) (v : Int) : List.replicate n (AV.int .i64 v) = cI (List.replicate n v) := by simp [cI]
theorem cB_rep (n : Nat) (v : Bool) : List.replicate n (AV.bool v) = cB (List.replicate n v) := by simp [cB]
theorem cI_rep_of (I : G) (l : List Int) : RepL I (cI l) (l.map (Value.int .i64)) := by
 unfold cI
 induction l with
 | nil => rfl
 | cons x l ih => exact ⟨_, _, rfl, rfl, ih⟩
theorem cI_un {I : G} : ∀ {l : List Int} {vs : List Value}, RepL I (cI l) vs → vs = l.map (Value.int .i64)
 | [], _, h => h
 | x :: l, _, ⟨v, us, e, h1, h2⟩ => by
  have h1 : v = .int .i64 x := h1
  rw [e, h1, cI_un h2]; rfl
section
variable {E : World} {P : Program} {ops : Array Oper} {K : AEnv → OL → Prop} {env : AEnv} {O O' O'' : OL} {rest : List Oper} {n : Nat}
variable {d ty : Nat} {pos : String} {af : Array Edge} {x y z : Operand} {t u e : TypeId}
theorem Gv.idxI {i n j : Nat} {a : Int} {T : TypeId} {cs : List AV} (ht : P.underlying t = some (.slice e)) (hs : ∀ w, (sizeOf e).run P w = .ok 1 w) (hx : aev env x = .own i n) (hy : aev env y = .int .i64 a) (hi : a = (j : Int)) (hO : Has O i (.grow 1 T cs)) (hn : cs.length = n) (hj : j < n) :
  Gv P env O (Oper.mk (some d) (.indexAddr t x y) ty pos af none) (.po i j) :=
 Gv.idxOL ht hs hx hy hi hO (fun e => by rw [e] at hn; simp at hn; omega) hj (Nat.mul_one j)
theorem Gv.loadI {i j : Nat} {T : TypeId} {l : List Int} {v : Int} (ha : ∀ w, (isAgg t).run P w = .ok false w) (hx : aev env x = .po i j) (hO : Has O i (.grow 1 T (cI l))) (hv : l[j]? = some v) :
  Gv P env O (Oper.mk (some d) (.load t x) ty pos af none) (.int .i64 v) := Gv.load1G ha hx hO (cI_drop hv)
theorem Gv.loadB {i j : Nat} {T : TypeId} {l : List Bool} {v : Bool} (ha : ∀ w, (isAgg t).run P w = .ok false w) (hx : aev env x = .po i j) (hO : Has O i (.grow 1 T (cB l))) (hv : l[j]? = some v) :
  Gv P env O (Oper.mk (some d) (.load t x) ty pos af none) (.bool v) := Gv.load1G ha hx hO (cB_drop hv)
theorem Put.cast {i k : Nat} {T : TypeId} {o : AObj} {cs ds : List AV} (h : Put O i o (.grow k T cs) O') (e : cs = ds) : Put O i o (.grow k T ds) O' := e ▸ h
theorem AOps.storeI {i j : Nat} {T : TypeId} {l : List Int} {v : Int} (hs : ∀ w, (sizeOf t).run P w = .ok 1 w) (hx : aev env x = .po i j) (hy : aev env y = .int .i64 v) (hO : Put O i (.grow 1 T (cI l)) (.grow 1 T (cI (l.set j v))) O') (hb : j < l.length)
  (kk : AOps P E ops K rest env O') : AOps P E ops K (Oper.mk none (.store t x y) ty pos af none :: rest) env O :=
 AOps.storeG1 (cs := cI l) hs hx hy rfl rfl rfl (hO.cast (cI_set l j v).symm) (by rw [cI_len]; exact hb) kk
theorem AOps.storeB {i j : Nat} {T : TypeId} {l : List Bool} {v : Bool} (hs : ∀ w, (sizeOf t).run P w = .ok 1 w) (hx : aev env x = .po i j) (hy : aev env y = .bool v) (hO : Put O i (.grow 1 T (cB l)) (.grow 1 T (cB (l.set j v))) O') (hb : j < l.length)
  (kk : AOps P E ops K rest env O') : AOps P E ops K (Oper.mk none (.store t x y) ty pos af none :: rest) env O :=
 AOps.storeG1 (cs := cB l) hs hx hy rfl rfl rfl (hO.cast (cB_set l j v).symm) (by rw [cB_len]; exact hb) kk
theorem AOps.makeI {i : TypeInfo} {zv : Value} {m : Nat} {k1 k2 : IntKind} {l l' : Int} (ht : P.underlying t = some (.slice e)) (hi : P.info? e = some i) (hz : i.zero = some zv) (hzc : zv.cells = #[.int .i64 0]) (hk : i.size = 1) (hx : aev env x = .int k1 l) (hy : aev env y = .int k2 l')
  (hl : l = (m : Int)) (hl' : l' = (m : Int)) (hb : (i.bytes : Int) * (m : Int) ≤ 281474976710656) (hm : m ≤ 281474976710656) (kk : ∀ j, AOps P E ops K rest (aupd env d (.own j m)) ((j, .grow 1 e (cI (List.replicate m 0))) :: O)) :
  AOps P E ops K (Oper.mk (some d) (.makeSlice t x y) ty pos af none :: rest) env O :=
 AOps.make1 ht hi hz hzc hk hx hy hl hl' hb hm rfl fun j => by rw [show lit (.int .i64 0) = AV.int .i64 0 from rfl, cI_rep]; exact kk j
theorem AOps.makeB {i : TypeInfo} {zv : Value} {m : Nat} {k1 k2 : IntKind} {l l' : Int} (ht : P.underlying t = some (.slice e)) (hi : P.info? e = some i) (hz : i.zero = some zv) (hzc : zv.cells = #[.bool false]) (hk : i.size = 1) (hx : aev env x = .int k1 l) (hy : aev env y = .int k2 l')
  (hl : l = (m : Int)) (hl' : l' = (m : Int)) (hb : (i.bytes : Int) * (m : Int) ≤ 281474976710656) (hm : m ≤ 281474976710656) (kk : ∀ j, AOps P E ops K rest (aupd env d (.own j m)) ((j, .grow 1 e (cB (List.replicate m false))) :: O)) :
  AOps P E ops K (Oper.mk (some d) (.makeSlice t x y) ty pos af none :: rest) env O :=
 AOps.make1 ht hi hz hzc hk hx hy hl hl' hb hm rfl fun j => by rw [show lit (.bool false) = AV.bool false from rfl, cB_rep]; exact kk j
theorem GStep.knowI {t i m : Nat} {T : TypeId} {l : List Int} (hv : env t = .own i m) (hO : Pick O i (.grow 1 T (cI l)) O') (hm : l.length = m) : GStep E env O (aupd env t (.fro 1 (l.map fun x => [.int .i64 x]))) O' :=
 GStep.know hv (by rw [cI_flat]; exact hO) (fun r hr => by obtain ⟨_, _, rfl⟩ := List.mem_map.1 hr; rfl) (by decide) (by rw [qh]; exact hm)
theorem GStep.knowB {t i m : Nat} {T : TypeId} {l : List Bool} (hv : env t = .own i m) (hO : Pick O i (.grow 1 T (cB l)) O') (hm : l.length = m) : GStep E env O (aupd env t (.fro 1 (l.map fun x => [.bool x]))) O' :=
 GStep.know hv (by rw [cB_flat]; exact hO) (fun r hr => by obtain ⟨_, _, rfl⟩ := List.mem_map.1 hr; rfl) (by decide) (by rw [qh]; exact hm)
end
structure Enc (α : Type) where
 k : Nat
 val : α → List Value
 pos : 0 < k
 len : ∀ x, (val x).length = k
 one : ∀ x, ∀ u ∈ val x, u.oneCell' = true
variable {α : Type}
def Enc.vs (c : Enc α) (l : List α) : List Value := l.flatMap c.val
def Enc.row (c : Enc α) (x : α) : List AV := (c.val x).map lit
def Enc.av (c : Enc α) (l : List α) : List AV := l.flatMap c.row
theorem Enc.vs_len (c : Enc α) (l : List α) : (c.vs l).length = l.length * c.k := by
 unfold Enc.vs
 induction l with
 | nil => simp
 | cons x l ih => rw [List.flatMap_cons, qg, ih, c.len, List.length_cons, Nat.add_mul]; omega
theorem Enc.av_eq (c : Enc α) (l : List α) : c.av l = (c.vs l).map lit := by
 unfold Enc.av Enc.vs
 induction l with
 | nil => rfl
 | cons x l ih => rw [List.flatMap_cons, List.flatMap_cons, qk, ih]; rfl
theorem Enc.av_len (c : Enc α) (l : List α) : (c.av l).length = l.length * c.k := by rw [c.av_eq, qh, c.vs_len]
theorem Enc.av_app (c : Enc α) (l m : List α) : c.av l ++ c.av m = c.av (l ++ m) := by unfold Enc.av; rw [List.flatMap_append]
theorem Enc.av_push (c : Enc α) (l : List α) (x : α) : c.av l ++ c.row x = c.av (l ++ [x]) := by rw [← c.av_app]; unfold Enc.av; simp
theorem Enc.vs_one (c : Enc α) (l : List α) : ∀ u ∈ c.vs l, u.oneCell' = true := by
 intro u hu
 unfold Enc.vs at hu
 obtain ⟨x, _, hx⟩ := List.mem_flatMap.1 hu
 exact c.one x u hx
theorem Enc.av_un (c : Enc α) {I : G} {l : List α} {vs : List Value} (h : RepL I (c.av l) vs) : vs = c.vs l := by rw [c.av_eq] at h; exact lit_uns h
def eI : Enc Int := ⟨1, fun x => [.int .i64 x], by decide, fun _ => rfl, fun x u hu => by simp at hu; subst hu; rfl⟩
def eP : Enc (Int × Int) := ⟨2, fun p => [.int .i64 p.1, .int .i64 p.2], by decide, fun _ => rfl, fun x u hu => by simp at hu; rcases hu with rfl | rfl <;> rfl⟩
inductive NestR (c : Enc α) (e : TypeId) : List (List α) → List Value → List (Nat × Obj) → Prop
 | nil : NestR c e [] [] []
 | cons {r rs a n cap hs A B} : OwnS c.k e a n cap (c.vs r) A → NestR c e rs hs B → NestR c e (r :: rs) (.slice a n cap :: hs) (A ++ B)
theorem NestR.len {c : Enc α} {e : TypeId} {rows : List (List α)} {hs : List Value} {L : List (Nat × Obj)} (h : NestR c e rows hs L) : hs.length = rows.length := by
 induction h with
 | nil => rfl
 | cons _ _ ih => simp [ih]
def NHole (c : Enc α) (e : TypeId) (rows : List (List α)) (j : Nat) (hs : List Value) (B : List (Nat × Obj)) : Prop :=
 ∀ r' a' n' c' A', OwnS c.k e a' n' c' (c.vs r') A' → ∃ L', NestR c e (rows.set j r') (hs.set j (.slice a' n' c')) L' ∧ L'.Perm (A' ++ B)
theorem NestR.get {c : Enc α} {e : TypeId} {rows : List (List α)} {hs : List Value} {L : List (Nat × Obj)} (h : NestR c e rows hs L) : ∀ {j : Nat} {r : List α}, rows[j]? = some r →
  ∃ a n cap A B, hs[j]? = some (.slice a n cap) ∧ OwnS c.k e a n cap (c.vs r) A ∧ L.Perm (A ++ B) ∧ NHole c e rows j hs B := by
 induction h with
 | nil => intro j r hj; simp at hj
 | @cons r0 rs a n cap hs A B h1 h2 ih =>
  intro j r hj
  cases j with
  | zero =>
   simp at hj; subst hj
   exact ⟨a, n, cap, A, B, rfl, h1, .refl _, fun r' a' n' c' A' h => ⟨A' ++ B, .cons h h2, .refl _⟩⟩
  | succ j =>
   obtain ⟨a1, n1, c1, A1, B1, g1, g2, g3, g4⟩ := ih (j := j) (r := r) (by simpa using hj)
   refine ⟨a1, n1, c1, A1, A ++ B1, by simpa using g1, g2, ?_, fun r' a' n' c' A' h => ?_⟩
   ·refine (g3.append_left A).trans ?_
    rw [← qc, ← qc]
    exact List.perm_append_comm.append_right B1
   ·obtain ⟨L', k1, k2⟩ := g4 r' a' n' c' A' h
    refine ⟨A ++ L', by simpa using NestR.cons h1 k1, ?_⟩
    refine (k2.append_left A).trans ?_
    rw [← qc, ← qc]
    exact List.perm_append_comm.append_right B1
theorem NestR.rep (c : Enc α) (e : TypeId) : ∀ m : Nat, NestR c e (List.replicate m []) (List.replicate m (.slice none 0 0)) []
 | 0 => .nil
 | m + 1 => by
  have := NestR.cons (c := c) (r := []) (OwnS.nil c.k e) (NestR.rep c e m)
  simpa [List.replicate_succ] using this
def nestO (c : Enc α) (T e : TypeId) (b : Nat) (rows : List (List α)) : AObj := .heap fun L => ∃ hs B, L = (b, .cells hs.toArray T (0, 0)) :: B ∧ NestR c e rows hs B
def nestH (c : Enc α) (T e : TypeId) (b : Nat) (rows : List (List α)) (j n i : Nat) : AObj := .heapG (fun I L => ∃ hs B hd, L = (b, .cells hs.toArray T (0, 0)) :: B ∧ I.h i = some hd ∧ hs[j]? = some (.slice (adr hd.1) n hd.2) ∧ hs.length = rows.length ∧ NHole c e rows j hs B)
 (fun I J L h hp => by obtain ⟨hs, B, hd, h1, h2, h3⟩ := hp; exact ⟨hs, B, hd, h1, h.h _ _ h2, h3⟩)
def nref (b n : Nat) : AV := .raw (.slice (some ⟨b, 0, none⟩) n n)
def nptr (b j : Nat) : AV := .raw (.pointer (some ⟨b, j, none⟩))
theorem OwnS.adr {k : Nat} {e : TypeId} {a : Option Addr} {n c : Nat} {cs : List Value} {A : List (Nat × Obj)} (h : OwnS k e a n c cs A) : ∃ b, a = Go.Proofs.YtpojdepccecpgaaGreatDoor.adr b := by
 rcases h.2.2 with ⟨e, _⟩ | ⟨b, junk, e, _⟩
 ·exact ⟨none, e⟩
 ·exact ⟨some b, e⟩
section
variable {E : World} {P : Program} {ops : Array Oper} {K : AEnv → OL → Prop} {env : AEnv} {O O' O'' : OL} {rest : List Oper} {n : Nat}
variable {d ty : Nat} {pos : String} {af : Array Edge} {x y z : Operand} {t u e T : TypeId}
theorem AOps.makeNest {i : TypeInfo} {zv : Value} {m : Nat} {k1 k2 : IntKind} {l l' : Int} (ht : P.underlying t = some (.slice T)) (hi : P.info? T = some i) (hz : i.zero = some zv) (hzc : zv.cells = #[.slice none 0 0]) (hk : i.size = 1) (hx : aev env x = .int k1 l) (hy : aev env y = .int k2 l')
  (hl : l = (m : Int)) (hl' : l' = (m : Int)) (hb : (i.bytes : Int) * (m : Int) ≤ 281474976710656) (hm : m ≤ 281474976710656) (c : Enc α) (e : TypeId) (kk : ∀ b, AOps P E ops K rest (aupd env d (nref b m)) ((0, nestO c T e b (List.replicate m [])) :: O)) :
  AOps P E ops K (Oper.mk (some d) (.makeSlice t x y) ty pos af none :: rest) env O := fun I F ρ w h1 h2 => by
 obtain ⟨htop, L, hL, hS⟩ := h2
 refine Ops.make1 ht hi hz hzc hk (evI h1 hx) (evI h1 hy) hl hl' hb hm hS fun b w' hS' => ?_
 exact kk b I F _ _ (h1.upd d rfl) ⟨htop, _, ⟨[(b, .cells (List.replicate m (.slice none 0 0)).toArray T (0, 0))], L, rfl, ⟨List.replicate m (.slice none 0 0), [], rfl, NestR.rep c e m⟩, hL⟩, by simpa using hS'⟩
theorem Gv.idxN {b m j : Nat} {a : Int} (ht : P.underlying t = some (.slice T)) (hs : ∀ w, (sizeOf T).run P w = .ok 1 w) (hx : aev env x = nref b m) (hy : aev env y = .int .i64 a) (hi : a = (j : Int)) (hj : j < m) :
  Gv P env O (Oper.mk (some d) (.indexAddr t x y) ty pos af none) (nptr b j) := q8 fun I ρ h => by
 have h1 := evRaw h hx
 have h2 := evI h hy
 subst hi
 have hlt : ((j : Int) < (m : Int)) := by omega
 refine ⟨_, Z, fun w=>?_⟩
 simp [execOp, h1, h2, Instr.indexAt, Sem.run_bind, run_underlying ht, hs, hlt, addr_add, asIntOf]
 intro h; omega
theorem AOps.nestTake {c : Enc α} {b j m : Nat} {rows : List (List α)} {r : List α} {f : Nat → OL} (ha : ∀ w, (isAgg t).run P w = .ok false w) (hx : aev env x = nptr b j) (hr : rows[j]? = some r)
  (hO : ∀ i, Put O m (nestO c T e b rows) (nestH c T e b rows j r.length i) (f i)) (kk : ∀ i, AOps P E ops K rest (aupd env d (.own i r.length)) ((i, .grow c.k e (c.av r)) :: f i)) :
  AOps P E ops K (Oper.mk (some d) (.load t x) ty pos af none :: rest) env O := fun I F ρ w h1 h2 => by
 obtain ⟨i, hi⟩ := h2.name
 obtain ⟨htop, L, hL, hS⟩ := h2
 have hx := evRaw h1 hx
 obtain ⟨A, B, hp, ⟨hs, B0, rfl, hN⟩, hback⟩ := (hO i).rep hL
 obtain ⟨a, n, cap, A1, B1, g1, g2, g3, g4⟩ := hN.get hr
 obtain ⟨b1, rfl⟩ := g2.adr
 have hn : n = r.length := by have := g2.1; rw [c.vs_len] at this; exact (Nat.eq_of_mul_eq_mul_right c.pos this).symm
 subst hn
 obtain ⟨J, e1, hle, e2, htop'⟩ := hi (b1, cap)
 have hS2 : SL I.k ((b, .cells hs.toArray T (0, 0)) :: (B0 ++ (B ++ F))) E w := hS.perm (by
  have := hp.append_right F
  simpa using this.symm)
 obtain ⟨L', h5, h6⟩ := hback hle (A' := (b, .cells hs.toArray T (0, 0)) :: B1) ⟨hs, B1, (b1, cap), rfl, e2, g1, hN.len, g4⟩
 refine Ops.load1 (I := I.k) (O := (b, .cells hs.toArray T (0, 0)) :: (B0 ++ (B ++ F))) ha hS2 hx (.inr ⟨_, _, _, .head _, by rw [List.getElem?_toArray]; exact g1⟩) ?_
 refine yu (fun _ _ => yz hle) _ _ _ (kk i J F _ _ ((h1.mono hle).upd d ⟨b1, cap, e2, Z⟩) ⟨htop', A1 ++ L', ⟨A1, L', Z, ⟨b1, cap, _, c.vs r, e2, by rw [c.av_eq]; exact lit_reps J _, c.vs_one r, g2⟩, h5⟩, ?_⟩)
 rw [e1]
 refine hS2.perm<|List.Perm.trans ?_ (List.Perm.cons _ ((g3.append_right (B ++ F)).symm))
 have h7 : (A1 ++ L' ++ F).Perm (A1 ++ ((b, Obj.cells hs.toArray T (0, 0)) :: (B1 ++ B)) ++ F) := (h6.append_left A1).append_right F
 refine h7.trans ?_
 simp only [qc, List.cons_append]
 exact List.perm_middle
theorem AOps.nestPut {c : Enc α} {b j m i i0 n0 n1 k : Nat} {rows : List (List α)} {r : List α} {cs : List AV} (hs1 : ∀ w, (sizeOf t).run P w = .ok 1 w) (hx : aev env x = nptr b j) (hy : aev env y = .own i n1) (hj : j < rows.length)
  (hP0 : Pick O i (.grow k e cs) O') (hO : Put O' m (nestH c T e b rows j n0 i0) (nestO c T e b (rows.set j r)) O'') (hk : k = c.k) (hcs : cs = c.av r) (hn1 : r.length = n1) (kk : AOps P E ops K rest env O'') :
  AOps P E ops K (Oper.mk none (.store t x y) ty pos af none :: rest) env O := fun I F ρ w h1 h2 => by
 obtain ⟨htop, L, hL, hS⟩ := h2
 have hP : Pick O i (.grow c.k e (c.av r)) O' := by subst hk hcs; exact hP0
 have hx := evRaw h1 hx
 have h3 := h1.ev y
 rw [hy] at h3
 obtain ⟨b1, c1, e1, ey⟩ := h3
 obtain ⟨A, B, hp, ⟨b1', c1', n', vs, e2, hvs, hvc, hown⟩, hB⟩ := hP.rep hL
 simp only at e2
 rw [e1] at e2
 simp only [Option.some.injEq, Prod.mk.injEq] at e2
 obtain ⟨rfl, rfl⟩ := e2
 have hv := c.av_un hvs
 subst hv
 have hnn : n' = n1 := by have := hown.1; rw [c.vs_len, hn1] at this; exact (Nat.eq_of_mul_eq_mul_right c.pos this).symm
 subst hnn
 obtain ⟨A2, B2, hp2, ⟨hs, B0, hd, rfl, _, hsj, hsl, hole⟩, hback⟩ := hO.rep hB
 obtain ⟨L', k1, k2⟩ := hole r _ _ _ A hown
 have hS2 : SL I.k ([(b, .cells hs.toArray T (0, 0))] ++ (A ++ (B0 ++ (B2 ++ F)))) E w := hS.perm (by
  refine List.Perm.trans ?_ ((hp.append_right F).symm)
  refine List.Perm.trans ?_ (((hp2.append_left A).append_right F).symm)
  simp only [qc, List.cons_append, List.nil_append]
  exact (List.perm_middle).symm)
 refine Ops.store1 (cs := hs) (off := j) hs1 hx ey Z (by rw [hsl]; exact hj) hS2 fun w' hS' => ?_
 obtain ⟨L2, h7, h8⟩ := hback (G.le.refl I) (A' := (b, .cells (hs.set j (.slice (adr b1) n' c1)).toArray T (0, 0)) :: L') ⟨_, L', rfl, k1⟩
 refine kk I F _ _ h1 ⟨htop, L2, h7, hS'.perm ?_⟩
 refine (h8.append_right F).trans ?_
 simp only [List.cons_append, List.nil_append, qc]
 refine List.Perm.cons _ ?_
 have := k2.append_right (B2 ++ F)
 simpa [qc] using this
theorem SL.freezeAllN : ∀ {A : List (Nat × Obj)} {I : Ghost} {F : List (Nat × Obj)} {E w : World}, SL I (A ++ F) E w → ∃ J, I.le J ∧ SL J F E w ∧ ∀ x ∈ A, J x.1 = some x.2
 | [], I, F, E, w, h => ⟨I, .refl _, h, fun _ h => by cases h⟩
 | (b, o) :: A, I, F, E, w, h => by
  obtain ⟨h1, h2⟩ := SL.freeze (show SL I ((b, o) :: (A ++ F)) E w from h)
  obtain ⟨J, h3, h4, h5⟩ := SL.freezeAllN h2
  refine ⟨J, h1.trans h3, h4, fun x hx => ?_⟩
  rcases List.mem_cons.1 hx with rfl | hx
  ·exact h3 _ _ (Ghost.put_same _ _ _)
  ·exact h5 x hx
theorem OwnS.fro {c : Enc α} {I : G} {e : TypeId} {a : Option Addr} {n cap : Nat} {r : List α} {A : List (Nat × Obj)} (h : OwnS c.k e a n cap (c.vs r) A) (hI : ∀ x ∈ A, I.k x.1 = some x.2) : RepV I (.fro c.k (r.map c.row)) (.slice a n cap) := by
 obtain ⟨h1, h2, h3⟩ := h
 have hn : n = r.length := by rw [c.vs_len] at h1; exact (Nat.eq_of_mul_eq_mul_right c.pos h1).symm
 subst hn
 rcases h3 with ⟨rfl, rfl, _⟩ | ⟨b, junk, rfl, rfl, hj⟩
 ·have h0 : r = [] := List.eq_nil_of_length_eq_zero (by omega)
  subst h0
  exact ⟨none, 0, 0, rfl, rfl, Nat.le_refl _, fun _ => rfl, trivial⟩
 ·have hb := hI _ (.head _)
  simp only at hb
  have hflat : (r.map c.row).flatten = (c.vs r).map lit := by rw [← c.av_eq]; unfold Enc.av; rw [List.flatMap]
  refine ⟨_, _, _, Z, by simp, h2, fun e => (by cases e), RepR.of_flat hb (r.map c.row) (c.vs r) 0 (fun x hx => by obtain ⟨y, _, rfl⟩ := List.mem_map.1 hx; unfold Enc.row; rw [qh, c.len]) (by rw [hflat]; exact lit_reps I _) fun i u hu => ?_⟩
  rw [Nat.zero_mul, Nat.zero_add, List.getElem?_toArray, List.getElem?_append_left (List.getElem?_eq_some_iff.1 hu).1]
  exact hu
theorem NestR.fro {c : Enc α} {I : G} {e : TypeId} {rows : List (List α)} {hs : List Value} {B : List (Nat × Obj)} (h : NestR c e rows hs B) (hI : ∀ x ∈ B, I.k x.1 = some x.2) : RepL I (rows.map fun r => .fro c.k (r.map c.row)) hs := by
 induction h with
 | nil => rfl
 | cons h1 _ ih => exact ⟨_, _, rfl, h1.fro fun x hx => hI x (List.mem_append_left _ hx), ih fun x hx => hI x (List.mem_append_right _ hx)⟩
def froN (c : Enc α) (rows : List (List α)) : AV := .fro 1 (rows.map fun r => [.fro c.k (r.map c.row)])
theorem nest_know {c : Enc α} {I : G} {F : List (Nat × Obj)} {E w : World} {b m : Nat} {rows : List (List α)} (hO : Pick O m (nestO c T e b rows) O') (h : SLA I O F E w) : ∃ J B, I.le J ∧ RepOs I O' B ∧ (∃ top, ∀ i, top ≤ i → J.h i = none) ∧ SL J.k (B ++ F) E w ∧ RepV J (froN c rows) (.slice (some ⟨b, 0, none⟩) rows.length rows.length) := by
 obtain ⟨htop, L, hL, hS⟩ := h
 obtain ⟨A, B, hp, ⟨hs, B0, rfl, hN⟩, hB⟩ := hO.rep hL
 have hS2 : SL I.k (((b, .cells hs.toArray T (0, 0)) :: B0) ++ (B ++ F)) E w := hS.perm (by rw [← qc]; exact (hp.append_right F).symm)
 obtain ⟨J, h1, h2, h3⟩ := SL.freezeAllN hS2
 have hle : I.le ⟨J, I.h⟩ := ⟨h1, fun _ _ h => h⟩
 refine ⟨⟨J, I.h⟩, B, hle, hB, htop, h2, ?_⟩
 have hb := h3 _ (.head _)
 simp only at hb
 have hrep := hN.fro (I := ⟨J, I.h⟩) fun x hx => h3 x (.tail _ hx)
 refine ⟨_, _, _, Z, by simp, Nat.le_refl _, fun e => (by cases e), RepR.intro fun j row hj => ?_⟩
 rw [qi] at hj
 obtain ⟨r, hr, rfl⟩ := Option.map_eq_some_iff.1 hj
 obtain ⟨v, hv1, hv2⟩ := hrep.get (j := j) (x := .fro c.k (r.map c.row)) (by rw [qi, hr]; rfl)
 refine ⟨b, 0, [v], Z, Z, RepL.one hv2, fun i u hu => ?_⟩
 cases i with
 | zero =>
  simp at hu; subst hu
  exact ⟨_, _, _, hb, by rw [List.getElem?_toArray, show 0 + (0 + j) * 1 + 0 = j by omega]; exact hv1⟩
 | succ i => simp at hu
theorem GStep.nestKnow {c : Enc α} {s b m n : Nat} {rows : List (List α)} (hv : env s = nref b n) (hO : Pick O m (nestO c T e b rows) O') (hn : rows.length = n) : GStep E env O (aupd env s (froN c rows)) O' := fun I F ρ w h1 h2 => by
 obtain ⟨J, B, hle, hB, htop, hS, hrep⟩ := nest_know hO h2
 refine ⟨J, hle, fun q=>?_, htop, B, hB.mono hle, hS⟩
 unfold aupd
 cases hb : Nat.beq q s with
 | false => exact RepV.mono hle _ _ (h1 q)
 | true =>
  have : q = s := Nat.eq_of_beq_eq_true hb
  subst this
  have h4 := h1 q
  rw [hv] at h4
  have h4 : ρ q = .slice (some ⟨b, 0, none⟩) n n := h4
  rw [h4, ← hn]; exact hrep
end
end Go.Proofs.YtpojdepccecpgaaGreatDoor
namespace Go.Proofs.YtpojdepccecpgaaGreatDoor
open Go.Proofs.Tryz
section
variable {E : World} {P : Program} {ops : Array Oper} {K : AEnv → OL → Prop} {env : AEnv} {O O' O'' : OL} {rest : List Oper} {n : Nat}
variable {d ty : Nat} {pos : String} {af : Array Edge} {x y z : Operand} {t u e : TypeId}
theorem AOps.cutTo {i k m j : Nat} {a : Int} {T : TypeId} {cs : List AV} (ht : P.underlying t = some (.slice e)) (hs : ∀ w, (sizeOf e).run P w = .ok k w) (hx : aev env x = .own i m) (hy : aev env y = .int .i64 a) (hi : a = (j : Int)) (hO : Put O i (.grow k T cs) (.grow k T (cs.take (j * k))) O')
  (hk : 0 < k) (hj : j * k ≤ cs.length)
  (kk : AOps P E ops K rest (aupd env d (.own i j)) O') : AOps P E ops K (Oper.mk (some d) (.slice t x none (some y) none) ty pos af none :: rest) env O := fun I F ρ w h1 h2 => by
 obtain ⟨htop, L, hL, hS⟩ := h2
 have h3 := h1.ev x
 rw [hx] at h3
 obtain ⟨b, c, e1, e2⟩ := h3
 have h4 := evI h1 hy
 subst hi
 obtain ⟨A, B, hp, ⟨b', c', n', vs, e3, hvs, hvc, h5, h6, h7⟩, hback⟩ := hO.rep hL
 simp only at e3
 rw [e1] at e3
 simp only [Option.some.injEq, Prod.mk.injEq] at e3
 obtain ⟨rfl, rfl⟩ := e3
 have hlen : vs.length = cs.length := hvs.length
 have hjn : j ≤ n' := by
  have : j * k ≤ n' * k := by omega
  exact Nat.le_of_mul_le_mul_right this hk
 have hjc : j ≤ c := by omega
 have hval : (execOp (Go.Proofs.YtpojdepccecpgaaGreatDoor.ev ρ) (Oper.mk (some d) (.slice t x none (some y) none) ty pos af none)).run P w = .ok (.value (.slice (adr b) j c)) w := by
  have : (if c = 0 then adr b else (adr b).map (·.add (0 * k))) = adr b := by
   split
   ·rfl
   ·cases b <;> simp [adr, Addr.add]
  simp [execOp, Instr.sliceAt, Instr.slice, Instr.sliceBounds, Instr.sliceBound, asIntOf, Sem.run_bind, run_underlying ht, hs, e2, h4, hjc]
  simpa using this
 obtain ⟨L', h8, h9⟩ := hback (G.le.refl I) (A' := A) ⟨b, c, j, vs.take (j * k), e1, hvs.take _, fun u hu => hvc u (List.mem_of_mem_take hu), by rw [ql]; omega, by omega, by
  rcases h7 with h7 | ⟨b2, junk, e4, e5, e6⟩
  ·exact .inl ⟨h7.1, h7.2.1, h7.2.2⟩
  ·exact .inr ⟨b2, vs.drop (j * k) ++ junk, e4, by rw [← qc, List.take_append_drop]; exact e5, by rw [← qc, List.take_append_drop]; exact e6⟩⟩
 exact Ops.val hval (kk I F _ w (h1.upd d ⟨b, c, e1, rfl⟩) ⟨htop, L', h8, hS.perm ((h9.trans hp.symm).append_right F)⟩)
theorem AOps.cutLast {i k m j : Nat} {a : Int} {T : TypeId} {A row : List AV} (ht : P.underlying t = some (.slice e)) (hs : ∀ w, (sizeOf e).run P w = .ok k w) (hx : aev env x = .own i m) (hy : aev env y = .int .i64 a) (hi : a = (j : Int)) (hO : Put O i (.grow k T (A ++ row)) (.grow k T A) O')
  (hk : 0 < k) (hA : A.length = j * k)
  (kk : AOps P E ops K rest (aupd env d (.own i j)) O') : AOps P E ops K (Oper.mk (some d) (.slice t x none (some y) none) ty pos af none :: rest) env O :=
 AOps.cutTo ht hs hx hy hi (hO.cast (by rw [← hA, List.take_left])) hk (by rw [qg]; omega) kk
end
end Go.Proofs.YtpojdepccecpgaaGreatDoor
namespace Go.Proofs.YtpojdepccecpgaaGreatDoor
open Go.Proofs.Tryz
open Go.Proofs
variable {E : World}
set_option maxRecDepth 20000
theorem indexFuncJ_spec {p : Int → Bool} {fn : FuncId} {c : List AV} (xs : List Int) (hl : xs.length ≤ 281474976710656) (hp : ∀ x ∈ xs, AFun prog E fn ([.int .i64 x] ++ c) (.bool (p x))) :
  AFun prog E 172 [.fro 1 (xs.map encI), .fn fn [] c] (.int .i64 (firstI p xs 0)) := by
 refine zt func172 Z (by decide) Z<|zSr<|zVzAi Z<|z6<|ze<|zSr<|zVzMf Z<|zVGvlenM j6 Z<|zVzMi Z<|z6<|zi<|y7 (γ := Nat) [0, 1, 7] (fun k => [(8, .int .i64 k)]) (fun k => []) (fun k => k ≤ xs.length ∧ (xs.take k).all (fun x => !p x)) (fun k => xs.length - k) 0 zR1 zLe (⟨qd _, Z⟩) ?_
 rintro k ⟨hk, hall⟩
 refine zSr<|zVGvlss Z Z<|z6<|ze<|y2 Z (fun ck=>?_) (fun ck=>?_)
 ·have hk2 : k < xs.length := by omega
  refine zj<|ze<|zi<|zSr<|zVzMi Z<|zVzAi Z<|z6<|zSr<|z8 (ye (v := .fn _ _ _) Z)<|zVzMf Z<|zVzMi Z<|z8 (yi j6 j8 Z Z Z (qa (by omega)))<|zVzLi jl Z<|AOps.callVP Z (hp _ (qe hk2)) Z<|z6<|y3 Z (fun cp=>?_) (fun cp=>?_)
  ·refine zSr<|zVzMi Z<|zVzAi Z<|z6<|zk<|zm (x := .int _ _) Z ?_
   rw [firstI_drop p xs k hk hall, List.drop_eq_getElem_cons hk2, firstI, if_pos cp]
  ·refine zj<|zRg<|zVzAd Z Z<|zVzMi Z<|z6 ?_
   exact ⟨k + 1, zR3, zR1, zLe, ⟨hk2, by rw [qb hk2, List.all_append, hall]; simp [cp]⟩, by omega⟩
 ·have hkn : k = xs.length := by omega
  refine y5<|zSr<|zVzAi Z<|z6<|zk<|zm (x := .int _ _) Z ?_
  rw [firstI_drop p xs k hk hall, hkn, List.drop_length, firstI]
theorem containsFuncJ_spec {p : Int → Bool} {fn : FuncId} {c : List AV} (xs : List Int) (hl : xs.length ≤ 281474976710656) (hp : ∀ x ∈ xs, AFun prog E fn ([.int .i64 x] ++ c) (.bool (p x))) :
  AFun prog E 133 [.fro 1 (xs.map encI), .fn fn [] c] (.bool (xs.any p)) := by
 refine zt func133 Z (by decide) Z<|zSr<|zVzAb Z<|z6<|zSr<|zVzMf Z<|z8 (ye (v := .fn _ _ _) Z)<|zg (indexFuncJ_spec xs hl hp) Z<|z8 (Gv.geq Z Z)<|zVzAb Z<|z6<|zk<|zm (x := .bool _) Z ?_
 rw [firstI_ge]
def kindV (f : PFunc) (v : Int) : Int := ((f.vars[v.toNat]?).map (·.ty)).getD 0
theorem hasV_get {f : PFunc} {v : Int} (h : hasV f v = true) : ∃ x, f.vars[v.toNat]? = some x ∧ v = (v.toNat : Int) ∧ kindV f v = x.ty := by
 unfold hasV at h
 simp only [qo, qq] at h
 have hl : v.toNat < f.vars.length := by omega
 refine ⟨f.vars[v.toNat], qa hl, by omega, ?_⟩
 unfold kindV; rw [qa hl]; rfl
theorem kind_spec (f : PFunc) (v : Int) (hv : hasV f v = true) : AFun prog E 145 [.agg (encF f), .int .i64 v] (.int .i64 (kindV f v)) := by
 obtain ⟨x, hx, hv2, hk⟩ := hasV_get hv
 rw [hk]
 refine zt func145 Z (by decide) Z<|zSr<|yc (cs := _) Z Z Z<|zVzAi Z<|z6<|zSr<|zVzFF jd Z Zb Z Z<|zVzLf Zh Z<|zVzMi Z<|z8 (zIM v.toNat jk Z2 Z Z hv2 hx)<|zVzFF Z5 Z Yg Z Z<|zVzLi isAgg56 Z<|zVzAi Z<|z6<|zk<|zm (x := .int _ _) Z ?_
 rfl
theorem any_spec (op : Int) : AFun prog E 146 [.int .i64 op] (.bool (decide (op = 1))) := by
 refine zt func146 Z (by decide) Z<|zSr<|zVzAb Z<|z6<|zSr<|zVzMi Z<|zVGveqlI Z Z<|zVzAb Z<|z6<|zk<|zm (x := .bool _) Z ?_
 simp_all
theorem headD_at : ∀ {l : List Int} (h : 0 < l.length), l.headD 0 = l[0]
 | [], h => absurd h (Nat.lt_irrefl 0)
 | _ :: _, _ => rfl
def instT (f : PFunc) (x : PInst) : Bool := if x.op = 1 then decide (kindV f x.dst = kindV f (x.args.headD 0)) else decide (x.args.map (kindV f) = takesL x.op) && (!makesB x.op || decide (kindV f x.dst = makesT x.op))
theorem map_take_succ {f : PFunc} {xs ts : List Int} {k : Nat} (h1 : k < xs.length) (h2 : k < ts.length) (h : (xs.take k).map (kindV f) = ts.take k) (hk : kindV f xs[k] = ts[k]) : (xs.take (k + 1)).map (kindV f) = ts.take (k + 1) := by
 rw [qb h1, qb h2, qk, h, List.map_cons, List.map_nil, hk]
theorem map_ne {f : PFunc} {xs ts : List Int} {k : Nat} (h1 : k < xs.length) (h2 : k < ts.length) (hk : ¬ kindV f xs[k] = ts[k]) : ¬ xs.map (kindV f) = ts := by
 intro e
 apply hk
 subst e
 rw [List.getElem_map]
theorem yinst_spec (f : PFunc) (x : PInst) (ha : x.args.all (hasV f) = true) (hl : x.args.length = (takesL x.op).length) (hd : makesB x.op = true → hasV f x.dst = true) :
  AFun prog E 117 [.agg (encF f), .agg (encInst x)] (.bool (instT f x)) := by
 have hlen : (takesL x.op).length ≤ 3 := by
  rcases kRow_mem x.op with h | h
  ·unfold takesL; rw [h]; decide
  ·have : ∀ r ∈ kindT, r.2.1.data.toList.length ≤ 3 := by decide
   have := this _ h
   unfold takesL; simpa using this
 refine zt func117 Z (by decide) Z<|zSr<|yc (cs := _) Z Z Z<|yc (cs := _) Z Z Z<|zVzAb Z<|z6<|ze<|zSr<|zVzFF jh Z Zo Z Z<|zVzLi Zt Z<|zg (any_spec _) Z<|z6<|y2 Z (fun c1=>?_) (fun c1=>?_)
 ·have e1 : x.op = 1 := by simpa using c1
  have hlz : 0 < x.args.length := by rw [hl, e1]; decide
  have hv0 : hasV f x.args[0] = true := List.all_eq_true.1 ha _ (qe hlz)
  have hvd : hasV f x.dst = true := hd (by rw [e1]; decide)
  refine ze<|y6 (fun j => false) (by kernel_rfl) Z (yb (.rest _))<|zTk 0 Z (yo jp j9 Z Z)<|zTk 1 Z (zFF jh Z j8 Z Z)<|zTk 2 Z (zLi jl Z)<|zTk 4 Z (yo jp j9 Z Z)<|zTk 5 Z (zFF jh Z ji Z Z)<|zTk 6 Z (zLf jq Z)<|zTk 7 Z (zIM 0 j6 j8 Z Z Z (qa hlz))<|zTk 8 Z (zLi jl Z)<|zOn 3 Z<|zg (kind_spec _ _ (by assumption)) Z<|z6<|zOn 9 Z<|zg (kind_spec _ _ (by assumption)) Z<|z6<|zTk 10 Z (Gv.eqlI Z Z)<|zTk 11 Z (zAb Z)<|zDn<|zk<|zm (x := .bool _) Z ?_
  exact jb (by unfold instT; rw [if_pos e1, headD_at hlz])
 ·have e1 : ¬ x.op = 1 := by simpa using c1
  refine zj<|ze<|zSr<|zVzFF jh Z Zo Z Z<|zVzLi Zt Z<|zg (takes_spec _) Z<|zVGvlenM underlying192 Z<|zVzMi Z<|z6<|zi<|y7 (γ := Nat) [2, 3, 25, 26] (fun k => [(27, .int .i64 k)]) (fun k => []) (fun k => k ≤ (takesL x.op).length ∧ (x.args.take k).map (kindV f) = (takesL x.op).take k) (fun k => (takesL x.op).length - k) 0 zR1 zLe (⟨qd _, Z⟩) ?_
  rintro k ⟨hk, hall⟩
  refine zSr<|zVGvlss Z Z<|z6<|ze<|y2 Z (fun ck=>?_) (fun ck=>?_)
  ·have hk2 : k < (takesL x.op).length := by simp at ck; omega
   have hk3 : k < x.args.length := by omega
   have hvk : hasV f x.args[k] = true := List.all_eq_true.1 ha _ (qe hk3)
   refine zj<|ze<|zi<|zSr<|zVzMi Z<|z8 (zIM k underlying192 Yg Z Z Z (qa hk2))<|zVzLi isAgg56 Z<|zVzAi Z<|zVzAi Z<|z6<|ze<|y6 (fun j => false) (by kernel_rfl) Z (yb (.rest _))<|zTk 0 Z (yo jp j9 Z Z)<|zTk 1 Z (zFF jh Z ji Z Z)<|zTk 2 Z (zLf jq Z)<|zTk 3 Z (zMi Z)<|zTk 4 Z (zIM k j6 j8 Z Z Z (qa hk3))<|zTk 5 Z (zLi jl Z)<|zTk 7 Z (zMi Z)<|zOn 6 Z<|zg (kind_spec _ _ (by assumption)) Z<|z6<|zTk 8 Z (Gv.neqI Z Z)<|zDn<|y3 Z (fun cn=>?_) (fun cn=>?_)
   ·refine zSr<|zVzAb Z<|z6<|zk<|zm (x := .bool _) Z ?_
    exact jb (by unfold instT; rw [if_neg e1, qn (map_ne hk3 hk2 (by simpa using cn))]; rfl)
   ·refine zj<|zRg<|zVzAd Z Z<|zVzMi Z<|z6 ?_
    exact ⟨k + 1, zR4, zR1, zLe, ⟨hk2, map_take_succ hk3 hk2 hall (by simpa using cn)⟩, by omega⟩
  ·have hkn : k = (takesL x.op).length := by simp at ck; omega
   subst hkn
   rw [qf, ← hl, qf] at hall
   refine y5<|zSr<|zVzFF jh Z Zo Z Z<|zVzLi Zt Z<|zg (makes_spec _) Z<|z8 (zMu Z)<|z8 (zXi Z Z)<|z8 (zXb Z Z)<|zVzAi Z<|zVzAb Z<|z6<|zSr<|zVzMb Z<|zVGvnot Z<|zVzMb Z<|zy (s := 50) Z (fun c1=>?_) (fun c1=>?_)
   ·refine z7 Z Z c1<|z7 Z Z c1<|z7 Z Z c1<|z7 Z Z c1<|z7 Z Z c1<|z7 Z Z c1<|zVzPt Z c1 Z<|zVzAb Z<|z6<|zk<|zm (x := .bool _) Z ?_
    exact jb (by unfold instT; rw [if_neg e1, qm hall]; simp_all)
   ·refine za Z Z c1<|zVGvloadWF jp j9 Z Z<|za Z Z c1<|zVzFF jh Z j8 Z Z<|za Z Z c1<|zVzLi jl Z<|za Z Z c1<|zg (kind_spec f x.dst (hd (by simp_all))) Z<|za Z Z c1<|zVzMi Z<|za Z Z c1<|zVGveqlI Z Z<|zVzPf Z c1 Z<|zVzAb Z<|z6<|zk<|zm (x := .bool _) Z ?_
    exact jb (by unfold instT; rw [if_neg e1, qm hall]; simp_all)
def phiT (f : PFunc) (p : PPhi) : Bool := !(p.args.any fun v => !decide (kindV f v = kindV f p.dst))
theorem yphi1_spec (f : PFunc) (p : PPhi) (v : Int) (hv : hasV f v = true) (hd : hasV f p.dst = true) : AFun prog E 144 ([.int .i64 v] ++ [.pf (encF f), .pf (encPhi p)]) (.bool (!decide (kindV f v = kindV f p.dst))) := by
 refine zt func144 Z (by decide) Z<|zSr<|zVzAb Z<|z6<|ze<|y6 (fun j => false) (by kernel_rfl) Z (yb (.rest _))<|zTk 0 Z (yo jp j9 Z Z)<|zTk 1 Z (zMi Z)<|zTk 3 Z (yo jp j9 Z Z)<|zTk 4 Z (zFF jj Z j8 Z Z)<|zTk 5 Z (zLi jl Z)<|zOn 2 Z<|zg (kind_spec _ _ (by assumption)) Z<|z6<|zOn 6 Z<|zg (kind_spec _ _ (by assumption)) Z<|z6<|zTk 7 Z (Gv.neqI Z Z)<|zTk 8 Z (zAb Z)<|zDn<|zk<|zm (x := .bool _) Z ?_
 simp_all
theorem yphi_spec (f : PFunc) (p : PPhi) (hp : okPhi p) (ha : p.args.all (hasV f) = true) (hd : hasV f p.dst = true) : AFun prog E 116 [.agg (encF f), .agg (encPhi p)] (.bool (phiT f p)) := by
 have hl1 := hp.1.lt
 refine zt func116 Z (by decide) Z<|zSr<|yc (cs := _) Z Z Z<|yc (cs := _) Z Z Z<|zVzAb Z<|z6<|zSr<|zVzFF jj Z ji Z Z<|zVzLf jq Z<|z8 (Gv.func Z Z)<|zg (containsFuncJ_spec p.args (by omega) (fun v hv => yphi1_spec f p v (List.all_eq_true.1 ha v hv) hd)) Z<|zVGvnot Z<|zVzAb Z<|z6<|zk<|zm (x := .bool _) Z ?_
 rfl
def termT (f : PFunc) (t : PTerm) : Bool := if t.kind = 0 then !decide (t.to0 = 0) else if t.kind = 1 then decide (kindV f t.var = 1) && !decide (t.to0 = 0) && !decide (t.to1 = 0) else decide (kindV f t.var = 0)
theorem yterm_spec (f : PFunc) (t : PTerm) (h : ¬ t.kind = 0 → hasV f t.var = true) : AFun prog E 118 [.agg (encF f), .agg (encTerm t)] (.bool (termT f t)) := by
 refine zt func118 Z (by decide) Z<|zSr<|yc (cs := _) Z Z Z<|yc (cs := _) Z Z Z<|zVzAb Z<|z6<|ze<|zSr<|zVzFF je Z Zg Z Z<|zVzLi Zl Z<|z6<|zi<|zSr<|zVGveqlI Z Z<|zVzAb Z<|z6<|y3 Z (fun c2=>?_) (fun c2=>?_)
 ·refine zSr<|zVzFF je Z jy Z Z<|z8 (yr (j := 0) jr j8 Z Z Z (by decide) Z)<|zVzLi jl Z<|zVGvneqI Z Z<|zVzAb Z<|z6<|zk<|zm (x := .bool _) Z ?_
  exact jb (by unfold termT; simp_all)
 ·refine zSr<|zVGveqlI Z Z<|zVzAb Z<|z6<|y3 Z (fun c3=>?_) (fun c3=>?_)
  ·refine zSr<|zVGvloadWF jp j9 Z Z<|zVzFF je Z j8 Z Z<|zVzLi jl Z<|zg (kind_spec f t.var (h (by simp_all))) Z<|zVGveqlI Z Z<|zVzMb Z<|zy (s := 20) Z (fun c4=>?_) (fun c4=>?_)
   ·refine za Z Z c4<|zVzFF je Z jy Z Z<|za Z Z c4<|z8 (yr (j := 0) jr j8 Z Z Z (by decide) Z)<|za Z Z c4<|zVzLi jl Z<|za Z Z c4<|zVGvneqI Z Z<|zVzPt Z c4 Z<|zVzMb Z<|zy (s := 26) Z (fun c5=>?_) (fun c5=>?_)
    ·refine za Z Z c5<|zVzFF je Z jy Z Z<|za Z Z c5<|z8 (yr (j := 1) jr j8 Z Z Z (by decide) Z)<|za Z Z c5<|zVzLi jl Z<|za Z Z c5<|zVGvneqI Z Z<|zVzPt Z c5 Z<|zVzAb Z<|z6<|zk<|zm (x := .bool _) Z ?_
     exact jb (by unfold termT; simp_all)
    ·refine z7 Z Z c5<|z7 Z Z c5<|z7 Z Z c5<|z7 Z Z c5<|zVzPf Z c5 Z<|zVzAb Z<|z6<|zk<|zm (x := .bool _) Z ?_
     exact jb (by unfold termT; simp_all)
   ·refine z7 Z Z c4<|z7 Z Z c4<|z7 Z Z c4<|z7 Z Z c4<|zVzPf Z c4 Z<|zVzMb Z<|z7 Z Z Z<|z7 Z Z Z<|z7 Z Z Z<|z7 Z Z Z<|zVzPf Z Z Z<|zVzAb Z<|z6<|zk<|zm (x := .bool _) Z ?_
    exact jb (by unfold termT; simp_all)
  ·refine zj<|zSr<|zVGvloadWF jp j9 Z Z<|zVzFF je Z j8 Z Z<|zVzLi jl Z<|zg (kind_spec f t.var (h (by simp_all))) Z<|zVGveqlI Z Z<|zVzAb Z<|z6<|zk<|zm (x := .bool _) Z ?_
   exact jb (by unfold termT; simp_all)
end Go.Proofs.YtpojdepccecpgaaGreatDoor
namespace Go.Proofs.YtpojdepccecpgaaGreatDoor
open Go.Proofs.Tryz
open Go.Proofs
theorem ps23_1 : PlacesS prog 23 3 1 1 [.int .i64 0] := ⟨_, j6, j8, Zr, by decide, by decide, by kernel_rfl⟩
theorem ps23_2 : PlacesS prog 23 3 2 1 [.int .i64 0, .int .i64 0] := ⟨_, j6, j8, Zr, by decide, by decide, by kernel_rfl⟩
variable {E : World}
set_option maxRecDepth 20000
theorem ends_0 {t : PTerm} (h : t.kind = 0) : endsL t = [t.to0] := by unfold endsL; rw [if_pos h]
theorem ends_1 {t : PTerm} (h : t.kind = 1) (e : t.to0 = t.to1) : endsL t = [t.to0] := by unfold endsL; rw [if_neg (by omega), if_pos h, if_pos e]
theorem ends_2 {t : PTerm} (h : t.kind = 1) (e : ¬ t.to0 = t.to1) : endsL t = [t.to0, t.to1] := by unfold endsL; rw [if_neg (by omega), if_pos h, if_neg e]
theorem ends_3 {t : PTerm} (h0 : ¬ t.kind = 0) (h : ¬ t.kind = 1) : endsL t = [] := by unfold endsL; rw [if_neg h0, if_neg h]
theorem ends_spec (t : PTerm) : AFun prog E 52 [.agg (encTerm t)] (.fro 1 ((endsL t).map encI)) := by
 refine zt func52 Z (by decide) Z<|zSr<|yc (cs := _) Z Z Z<|z8 (zAr Z)<|z6<|ze<|zi<|ze<|zSr<|zVzFF je Z Zg Z Z<|zVzLi Zl Z<|zVGveqlI Z Z<|zVzAb Z<|z6<|y2 Z (fun c0=>?_) (fun c0=>?_)
 ·refine zj<|yq Z (by simpa using c0)<|zSr<|zVzFF je Z jy Z Z<|z8 (yr (j := 0) jr j8 Z Z Z (by decide) Z)<|zVzLi jl Z<|zr (rows := [[_]]) ps23_1 Z Z Z Z Z<|z8 (zAf Z)<|z6<|zk<|zm (x := .fro _ _) Z ?_
  rw [ends_0 c0]; rfl
 ·refine zRg<|zVzFF je Z Zg Z Z<|zVzLi Zl Z<|zVGveqlI Z Z<|zVzMb Z<|zy (s := 10) Z (fun c1=>?_) (fun c1=>?_)
  ·refine za Z Z c1<|zVzFF je Z jy Z Z<|za Z Z c1<|z8 (yr (j := 0) jr j8 Z Z Z (by decide) Z)<|za Z Z c1<|zVzLi jl Z<|za Z Z c1<|zVzFF je Z jy Z Z<|za Z Z c1<|z8 (yr (j := 1) jr j8 Z Z Z (by decide) Z)<|za Z Z c1<|zVzLi jl Z<|za Z Z c1<|zVGveqlI Z Z<|zVzPt Z c1 Z<|zVzAb Z<|z6<|y3 Z (fun c2=>?_) (fun c2=>?_)
   ·refine zSr<|zVzFF je Z jy Z Z<|z8 (yr (j := 0) jr j8 Z Z Z (by decide) Z)<|zVzLi jl Z<|zr (rows := [[_]]) ps23_1 Z Z Z Z Z<|z8 (zAf Z)<|z6<|zk<|zm (x := .fro _ _) Z ?_
    rw [ends_1 (by simpa using c1) (by simpa using c2)]; rfl
   ·refine zSr<|zVzFF je Z Zg Z Z<|zVzLi Zl Z<|zVGveqlI Z Z<|zVzAb Z<|z6<|yq Z (by simpa using c1)<|zSr<|zVzFF je Z jy Z Z<|z8 (yr (j := 0) jr j8 Z Z Z (by decide) Z)<|zVzLi jl Z<|zVzFF je Z jy Z Z<|z8 (yr (j := 1) jr j8 Z Z Z (by decide) Z)<|zVzLi jl Z<|zr (rows := [[_], [_]]) ps23_2 Z Z Z Z Z<|z8 (zAf Z)<|z6<|zk<|zm (x := .fro _ _) Z ?_
    rw [ends_2 (by simpa using c1) (by simpa using c2)]; rfl
  ·refine z7 Z Z c1<|z7 Z Z c1<|z7 Z Z c1<|z7 Z Z c1<|z7 Z Z c1<|z7 Z Z c1<|z7 Z Z c1<|zVzPf Z c1 Z<|zVzAb Z<|z6<|yl Z Z<|zSr<|zVzFF je Z Zg Z Z<|zVzLi Zl Z<|zVGveqlI Z Z<|zVzAb Z<|z6<|yl Z (by simpa using c1)<|zj<|zSr<|z8 (zAr Z)<|z6<|zk ?_
   repeat (first | refine aseqQ_ret ?_ | refine ablockQ_ret ?_)
   refine GStep.fin (GStep.slot (t := 2) Z (impNil 1))<|zm (x := .fro _ _) Z ?_
   rw [ends_3 (by simpa using c0) (by simpa using c1)]; rfl
def push1 (rows : List (List Int)) (c x : Int) : List (List Int) := rows.set c.toNat ((rows[c.toNat]?).getD [] ++ [x])
def pushes (rows : List (List Int)) (cs : List Int) (x : Int) : List (List Int) := cs.foldl (fun r c => push1 r c x) rows
theorem pushes_len (cs : List Int) (x : Int) : ∀ rows, (pushes rows cs x).length = rows.length := by
 induction cs with
 | nil => intro rows; rfl
 | cons c cs ih => intro rows; show (pushes (push1 rows c x) cs x).length = _; rw [ih]; unfold push1; simp
theorem pushes_snoc (rows : List (List Int)) (cs : List Int) (c x : Int) : pushes rows (cs ++ [c]) x = push1 (pushes rows cs x) c x := by unfold pushes; rw [List.foldl_append]; rfl
theorem push1_get {rows : List (List Int)} {c x : Int} (h0 : 0 ≤ c) (b : Nat) : (push1 rows c x)[b]? = (rows[b]?).map (· ++ if c = (b : Int) then [x] else []) := by
 unfold push1
 rw [List.getElem?_set]
 by_cases e : c.toNat = b
 ·have : c = (b : Int) := by omega
  rw [if_pos e, if_pos this, e]
  by_cases hb : b < rows.length
  ·rw [if_pos hb, qa hb]; rfl
  ·rw [if_neg hb, List.getElem?_eq_none (by omega)]; rfl
 ·have : ¬ c = (b : Int) := by omega
  rw [if_neg e, if_neg this]; simp
theorem pushes_get (x : Int) (b : Nat) : ∀ (cs : List Int) (rows : List (List Int)), (∀ c ∈ cs, 0 ≤ c) → (pushes rows cs x)[b]? = (rows[b]?).map (· ++ (cs.filter fun c => decide (c = (b : Int))).map fun _ => x)
 | [], rows, _ => by simp [pushes]
 | c :: cs, rows, h => by
  show (pushes (push1 rows c x) cs x)[b]? = _
  rw [pushes_get x b cs _ (fun c hc => h c (List.mem_cons_of_mem _ hc)), push1_get (h c (List.mem_cons_self ..))]
  cases rows[b]? with
  | none => rfl
  | some r =>
   by_cases e : c = (b : Int)
   ·simp [e]
   ·simp [e]
def predsR (f : PFunc) (k : Nat) : List (List Int) := (List.range f.blocks.length).map fun (b : Nat) => predsT (EndsOf f) k (b : Int)
theorem predsR_len (f : PFunc) (k : Nat) : (predsR f k).length = f.blocks.length := by unfold predsR; simp
theorem predsR_zero (f : PFunc) : List.replicate f.blocks.length [] = predsR f 0 := by
 apply List.ext_getElem
 ·rw [predsR_len]; simp
 ·intro i h1 h2
  unfold predsR predsT intsTo
  simp
theorem predsT_succ (E : Int → List Int) (k : Nat) (b : Int) : predsT E (k + 1) b = predsT E k b ++ ((E k).filter fun c => decide (c = b)).map fun _ => (k : Int) := by
 unfold predsT; rw [intsTo_succ, List.flatMap_append]; simp
theorem predsR_succ {f : PFunc} {k : Nat} (h0 : ∀ c ∈ EndsOf f k, 0 ≤ c) : pushes (predsR f k) (EndsOf f k) k = predsR f (k + 1) := by
 apply List.ext_getElem?
 intro b
 rw [pushes_get _ _ _ _ h0]
 by_cases hb : b < f.blocks.length
 ·unfold predsR
  rw [qi, qi, List.getElem?_range hb]
  simp only [Option.map_some]
  rw [predsT_succ]
 ·rw [List.getElem?_eq_none (by rw [predsR_len]; omega), List.getElem?_eq_none (by rw [predsR_len]; omega)]; rfl
theorem push_row {rows : List (List Int)} {c x : Int} (h : c.toNat < rows.length) : rows.set c.toNat (rows[c.toNat] ++ [x]) = push1 rows c x := by
 unfold push1; rw [qa h]; rfl
theorem predsT_len (f : PFunc) (b : Int) : ∀ k, (predsT (EndsOf f) k b).length ≤ 2 * k
 | 0 => by simp [predsT, intsTo]
 | k + 1 => by
  have h1 := predsT_len f b k
  have h2 := EndsOf_len f k
  have h3 := List.length_filter_le (fun c => decide (c = b)) (EndsOf f k)
  rw [predsT_succ, qg, qh]
  omega
theorem row_len {f : PFunc} {k b : Nat} {cs : List Int} {x : Int} (h0 : ∀ c ∈ cs, 0 ≤ c) (hb : b < (pushes (predsR f k) cs x).length) : (pushes (predsR f k) cs x)[b].length ≤ 2 * k + cs.length := by
 have hb2 : b < f.blocks.length := by rwa [pushes_len, predsR_len] at hb
 have h := pushes_get x b cs (predsR f k) h0
 have hr : (predsR f k)[b]? = some (predsT (EndsOf f) k (b : Int)) := by unfold predsR; rw [qi, List.getElem?_range hb2]; rfl
 rw [qa hb, hr] at h
 have h : (pushes (predsR f k) cs x)[b] = predsT (EndsOf f) k (b : Int) ++ (cs.filter fun c => decide (c = (b : Int))).map fun _ => x := by simpa using h
 have h2 := predsT_len f b k
 have h3 := List.length_filter_le (fun c => decide (c = (b : Int))) cs
 rw [h, qg, qh]
 omega
theorem preds_spec (f : PFunc) (hE : EndsOk f) (hn : f.blocks.length ≤ 100000) : AFun prog E 49 [.agg (encF f)] (froN eI (predsR f f.blocks.length)) := by
 refine zt func49 Z (by decide) Z<|zSr<|yc (cs := _) Z Z Z<|z8 (zAr Z)<|z6<|zSr<|zVzFF jd Z jw Z Z<|zVzLf Z3 Z<|zVGvlenM jc Z<|AOps.makeNest (m := f.blocks.length) underlying97 type23 Z Z Z Z Z (by simp) (by simp) (by show (24 : Int) * _ ≤ _; omega) (by omega) eI 3<|fun b11 => z8 (y9 (v := nref _ _) Z)<|z6<|ze<|zSr<|zVzFF jd Z jw Z Z<|zVzLf Z3 Z<|zVGvlenM jc Z<|zVzMi Z<|z6<|zi<|y7 (γ := Nat) [3, 13, 14] (fun k => [(15, .int .i64 k)]) (fun k => [(0, nestO eI 23 3 b11 (predsR f k))]) (fun k => k ≤ f.blocks.length) (fun k => f.blocks.length - k) 0 zR1 ⟨_, (.refl _), by rw [predsR_zero]⟩ (qd _) ?_
 rintro k hk
 refine zSr<|zVGvlss Z Z<|z6<|ze<|y2 Z (fun ck=>?_) (fun ck=>?_)
 ·have hk2 : k < f.blocks.length := by simp at ck; omega
  have hEk : EndsOf f k = endsL f.blocks[k].term := EndsOf_nat hk2
  have hlen := endsL_len f.blocks[k].term
  have hrng := hE.rng _ (qe hk2)
  refine zj<|ze<|zi<|zSr<|zVzMi Z<|z8 (zIM k jc jm Z Z Z (qa hk2))<|zVGvloadWF Ze jm Z Z<|zo (cs := [.str ⟨#[]⟩, .raw (.slice none 0 0), .raw (.slice none 0 0), .int .i64 0, .int .i64 0, .int .i64 0, .int .i64 0]) Z0 Z Z<|fun i5 => zVzAi Z<|zh jm Z Z Z Z Z Z .head Z<|z6<|zSr<|z8 (zf j7 Z jv (by decide) Z Z)<|z8 (Gv.loadAC (l := [_, _, _, _]) Zy jv Z ⟨_, .head⟩ Z Z)<|zg (ends_spec _) Z<|zVGvlenM j6 Z<|zVzMi Z<|z6<|zi<|y7 (γ := Nat) [3, 4, 13, 14, 15, 22, 23] (fun j => [(24, .int .i64 j)]) (fun j => [(0, nestO eI 23 3 b11 (pushes (predsR f k) ((endsL f.blocks[k].term).take j) k))]) (fun j => j ≤ (endsL f.blocks[k].term).length) (fun j => (endsL f.blocks[k].term).length - j) 0 zR1 ⟨_, (.drop (.refl _)), Z⟩ (qd _) ?_
  rintro j hj
  refine zSr<|zVGvlss Z Z<|z6<|ze<|y2 Z (fun cj=>?_) (fun cj=>?_)
  ·have hj2 : j < (endsL f.blocks[k].term).length := by simp at cj; omega
   obtain ⟨c, hc⟩ : ∃ c, (endsL f.blocks[k].term)[j] = c := ⟨_, rfl⟩
   have hr := hrng c (hc ▸ qe hj2)
   obtain ⟨rows, hrows⟩ : ∃ rows, pushes (predsR f k) ((endsL f.blocks[k].term).take j) k = rows := ⟨_, rfl⟩
   have hrl : rows.length = f.blocks.length := by rw [← hrows, pushes_len, predsR_len]
   have hcn : c.toNat < rows.length := by omega
   have hrow : rows[c.toNat].length ≤ 200002 := by
    have := row_len (f := f) (k := k) (b := c.toNat) (cs := (endsL f.blocks[k].term).take j) (x := k) (fun c hc => (hrng c (List.mem_of_mem_take hc)).1) (by rw [hrows]; exact hcn)
    simp only [hrows, ql] at this
    omega
   rw [hrows]
   refine zj<|ze<|zi<|zSr<|z8 (zIM j j6 j8 Z Z Z (by rw [qa hj2, hc])) ?_
   refine zVzLi jl Z<|zVzAi Z<|z6<|zRg<|z8 (ye (v := nref _ _) Z)<|zVzMi Z<|z8 (ye (v := nref _ _) Z)<|zVzMi Z<|z8 (Gv.idxN (j := c.toNat) underlying97 ji Z Z (by omega) (by omega))<|AOps.nestTake (j := c.toNat) (r := rows[c.toNat]) jq Z (qa hcn) (fun _ => .head)<|fun i33 => zVzMi Z<|zr (rows := [[_]]) ps23_1 Z Z Z Z Z<|zq (k := 1) j6 jz Z Z Z Z Z (fun _ => .head) (by rw [eI.av_len]; rfl) (by decide) Z (by show (_ + 1) * 8 ≤ _; omega) (by show _ + 1 ≤ _; omega)<|fun i36 => z8 (Gv.idxN (j := c.toNat) underlying97 ji Z Z (by omega) (by omega))<|AOps.nestPut (j := c.toNat) (r := rows[c.toNat] ++ [(k : Int)]) ji Z Z (by omega) .head .head Z (eI.av_push _ _) (by simp)<|z6<|zRg<|zVzAd Z Z<|zVzMi Z<|z6 ?_
   exact ⟨j + 1, zR7, zR1, ⟨_, (.refl _), by rw [qb hj2, pushes_snoc, hrows, hc, push_row hcn]⟩, hj2, by omega⟩
  ·have hjn : j = (endsL f.blocks[k].term).length := by simp at cj; omega
   refine y5<|zRg<|zVzAd Z Z<|zVzMi Z<|z6 ?_
   exact ⟨k + 1, zR3, zR1, ⟨_, (.refl _), by rw [hjn, qf, ← hEk, predsR_succ (fun c hc => (hrng c (hEk ▸ hc)).1)]⟩, hk2, by omega⟩
 ·have hkn : k = f.blocks.length := by simp at ck; omega
  subst hkn
  refine y4 (GStep.nestKnow (s := 3) Z .head (predsR_len f _))<|y5<|zSr<|zVzMf Z<|z8 (zAf Z)<|z6<|zk<|zm (x := .fro _ _) Z ?_
  rfl
end Go.Proofs.YtpojdepccecpgaaGreatDoor
namespace Go.Proofs.YtpojdepccecpgaaGreatDoor
open Go.Proofs.Tryz
open Go.Sort (Holds putRow putCells onCells)
theorem putCells_eq {zs ys : List Int} {junk : List Value} (hl : ys.length = zs.length) : putCells (Value.int .i64) 0 ys.toArray (zs.map (Value.int .i64) ++ junk).toArray = (ys.map (Value.int .i64) ++ junk).toArray := by
 unfold putCells
 apply Array.ext_getElem?
 intro k
 simp only [Array.getElem?_mapIdx, List.getElem?_toArray, qd, true_and, Nat.zero_add, Nat.sub_zero, List.size_toArray]
 by_cases hk : k < ys.length
 ·rw [List.getElem?_append_left (by rw [qh]; omega), List.getElem?_append_left (by rw [qh]; omega), qi, qi, qa hk, qa (by omega : k < zs.length)]
  simp [hk]
 ·rw [List.getElem?_append_right (by rw [qh]; omega), List.getElem?_append_right (by rw [qh]; omega), qh, qh, hl]
  rw [hl] at hk
  simp only [hk, if_false]
  cases junk[k - zs.length]? <;> rfl
theorem SL.turned {I : Ghost} {O : List (Nat × Obj)} {E w : World} {b n : Nat} {zs ys : List Int} {junk : List Value} {T : TypeId} {os : Array Obj} (hl : ys.length = zs.length) (h : SL I ((b, .cells (zs.map (Value.int .i64) ++ junk).toArray T (0, 0)) :: O) E w) :
  SL I ((b, .cells (ys.map (Value.int .i64) ++ junk).toArray T (0, 0)) :: O) E (Go.Sort.grow (putRow (Value.int .i64) (Go.Sort.ahead w n) b 0 ys.toArray) os) := by
 have hb := h.own _ (.head _)
 simp only at hb
 have hlt := lt_of_some hb
 have h1 : SL I ((b, .cells (ys.map (Value.int .i64) ++ junk).toArray T (0, 0)) :: O) E (putRow (Value.int .i64) (Go.Sort.ahead w n) b 0 ys.toArray) := by
  refine h.turn Z Z Z ?_ fun k hk => ?_
  ·show (w.heap.modify b (onCells (putCells (Value.int .i64) 0 ys.toArray)))[b]? = _
   rw [Array.getElem?_modify, if_pos rfl, hb]
   simp only [Option.map_some, onCells, putCells_eq hl]
  ·show (w.heap.modify b (onCells (putCells (Value.int .i64) 0 ys.toArray)))[k]? = _
   rw [Array.getElem?_modify, if_neg (fun e => hk e.symm)]
 exact h1.more rfl rfl rfl fun k hk => Go.Sort.heap_grow_old _ _ hk
theorem ACall.turned {E : World} {P : Program} {f : FuncId} {fn : Func} {c : Code} {g : List Int → List Int} {B : Nat} (hf : P.funcs[f]? = some fn) (hb : fn.body = some c) (hn : fn.name ≠ "runtime.NumGoroutine") (hg : ∀ l, (g l).length = l.length)
  (hC : ∀ (blk cap : Nat) (zs : List Int) (w : World), Holds (Value.int .i64) w blk 0 zs.toArray → blk < w.heap.size → zs.length < B →
   Calls P f #[.slice (some ⟨blk, 0, none⟩) zs.length cap] w fun e w' => e = .returned (.tuple #[]) ∧ ∃ n os, w' = Go.Sort.grow (putRow (Value.int .i64) (Go.Sort.ahead w n) blk 0 (g zs).toArray) os)
  (hN : ∀ (cap : Nat) (w : World), Calls P f #[.slice none 0 cap] w fun e w' => e = .returned (.tuple #[]) ∧ w' = w)
  {l : List Int} {i n : Nat} {T : TypeId} (hl : l.length = n) (hB : n < B) : ACall P E f [.own i n] [(i, .grow 1 T (cI l))] fun r O => r = .tup [] ∧ O = [(i, .grow 1 T (cI (g l)))] := fun I F w vs h1 h2 => by
 obtain ⟨v, us, rfl, ⟨b, c, e1, rfl⟩, h3⟩ := h1
 have h3 : us = [] := h3
 subst h3
 obtain ⟨ht, L, ⟨A, B', e2, ⟨b', c', n', ws, e3, h4, h5, h6⟩, h7⟩, hS⟩ := h2
 have h7 : B' = [] := h7
 subst h7
 rw [List.append_nil] at e2
 subst e2
 simp only at e3
 rw [e1] at e3
 simp only [Option.some.injEq, Prod.mk.injEq] at e3
 obtain ⟨rfl, rfl⟩ := e3
 have h4 := cI_un h4
 subst h4
 refine Fn.ofCalls hf hb hn ?_
 obtain ⟨g1, g2, g3⟩ := h6
 rw [qh, Nat.mul_one] at g1
 have hnn : n' = n := by omega
 subst hnn
 rcases g3 with ⟨ea, rfl, rfl⟩ | ⟨b2, junk, ea, rfl, hj⟩
 ·have h0 : n' = 0 := by omega
  subst h0
  have hl0 : l = [] := List.eq_nil_of_length_eq_zero hl
  subst hl0
  have hg0 : g [] = [] := List.eq_nil_of_length_eq_zero (hg [])
  rw [ea]
  refine (hN 0 w).mono fun e w' ⟨he, hw⟩ => ⟨_, he, I, .tup [], _, .refl _, ⟨[], Z, Z⟩, ?_, Z, Z⟩
  subst hw
  rw [hg0]
  exact ⟨ht, [], ⟨[], [], rfl, ⟨b, 0, 0, [], e1, rfl, by simp, by rw [ea]; exact OwnS.nil 1 T⟩, rfl⟩, hS⟩
 ·rw [ea]
  have hS2 : SL I.k ((b2, .cells (l.map (Value.int .i64) ++ junk).toArray T (0, 0)) :: F) E w := hS
  have hH : Holds (Value.int .i64) w b2 0 l.toArray := fun j hjl => by
   have hj2 : j < l.length := by simpa using hjl
   have hbk := hS2.own _ (.head _)
   simp only at hbk
   refine ⟨?_, ?_⟩
   ·rw [hS2.cell_own, Nat.zero_add, List.getElem?_toArray, List.getElem?_append_left (by rw [qh]; exact hj2), qi, qa hj2]
    simp [hj2]
   ·simp [World.frozen?, hbk]
  have := hC b2 c l w hH (lt_of_some (hS2.own _ (.head _))) (by omega)
  rw [hl] at this
  refine this.mono fun e w' ⟨he, k, os, hw⟩ => ⟨_, he, I, .tup [], _, .refl _, ⟨[], Z, Z⟩, ?_, Z, Z⟩
  subst hw
  refine ⟨ht, [(b2, .cells ((g l).map (Value.int .i64) ++ junk).toArray T (0, 0))], ⟨_, [], by simp, ⟨b, c, n', (g l).map (Value.int .i64), e1, cI_rep_of I (g l), fun u hu => by obtain ⟨x, _, rfl⟩ := List.mem_map.1 hu; rfl, by rw [qh, hg, hl, Nat.mul_one], g2, .inr ⟨b2, junk, ea, rfl, by rw [qg, qh, hg] ; rw [qg, qh] at hj; exact hj⟩⟩, rfl⟩, ?_⟩
  exact SL.turned (hg l) hS2
end Go.Proofs.YtpojdepccecpgaaGreatDoor
namespace Go.Proofs.YtpojdepccecpgaaGreatDoor
open Go.Proofs.Tryz
variable {α : Type}
theorem NestR.inv {c : Enc α} {e : TypeId} {r : List α} {rs : List (List α)} {hs : List Value} {L : List (Nat × Obj)} (h : NestR c e (r :: rs) hs L) :
  ∃ a n cap hs' A B, hs = .slice a n cap :: hs' ∧ L = A ++ B ∧ OwnS c.k e a n cap (c.vs r) A ∧ NestR c e rs hs' B := by
 cases h with
 | cons h1 h2 => exact ⟨_, _, _, _, _, _, rfl, rfl, h1, h2⟩
section
variable {E : World} {P : Program} {ops : Array Oper} {K : AEnv → OL → Prop} {env : AEnv} {O O' O'' : OL} {rest : List Oper} {n : Nat}
variable {d ty : Nat} {pos : String} {af : Array Edge} {x y z : Operand} {t u e T : TypeId}
end
end Go.Proofs.YtpojdepccecpgaaGreatDoor
namespace Go.Proofs.YtpojdepccecpgaaGreatDoor
open Go.Proofs.Tryz
open Go.Proofs
theorem pl174 : Places prog 174 #[(0, 1), (1, 1)] [.int .i64 0, .int .i64 0] := ⟨_, _, Y3, zeroValue174, fun w => by kernel_rfl, rfl⟩
theorem ps175_1 : PlacesS prog 175 174 1 2 [.int .i64 0, .int .i64 0] := ⟨_, Zz, sizeOf174, zeroValue174, by decide, by decide, by kernel_rfl⟩
variable {E : World}
set_option maxRecDepth 20000
def stC (r : List (Int × Nat)) : List AV := (r.reverse.map fun q => [AV.int .i64 q.1, AV.int .i64 (q.2 : Int)]).flatten
theorem stC_cons (b : Int) (k : Nat) (r : List (Int × Nat)) : stC ((b, k) :: r) = stC r ++ [AV.int .i64 b, AV.int .i64 (k : Int)] := by unfold stC; simp
theorem stC_len (r : List (Int × Nat)) : (stC r).length = r.length * 2 := by
 induction r with
 | nil => rfl
 | cons q r ih => obtain ⟨b, k⟩ := q; rw [stC_cons, qg, ih]; simp only [List.length_cons, List.length_nil]; omega
theorem dfs_lens {f : PFunc} {n k : Nat} (hE : EOk (EndsOf f) n) : (dfsN (EndsOf f) n k).2.1.length + (dfsN (EndsOf f) n k).2.2.length ≤ n := by
 have h := dfsN_inv hE k
 have h2 := nodup_len _ (intsTo n) h.nodup fun x hx => mem_intsTo.2 (h.rng x hx)
 rw [intsTo_len, qg, qh] at h2
 exact h2
theorem order_spec (f : PFunc) (hE : EndsOk f) (hn : f.blocks.length ≤ 100000) (hrev : ∀ (l : List Int) (i : Nat) (T : TypeId), l.length ≤ 200000 → ACall prog E 121 [.own i l.length] [(i, .grow 1 T (cI l))] fun r O => r = .tup [] ∧ O = [(i, .grow 1 T (cI l.reverse))]) :
  AFun prog E 83 [.agg (encF f)] (.fro 1 ((orderT (EndsOf f) f.blocks.length).map encI)) := by
 have hG := hE.grph
 have hpos := hG.npos
 refine zt func83 Z (by decide) Z<|zSr<|yc (cs := _) Z Z Z<|z8 (zAr Z)<|z6<|zSr<|zVzFF jd Z jw Z Z<|zVzLf Z3 Z<|zVGvlenM jc Z<|AOps.makeB (m := f.blocks.length) Y1 type4 Z Z Z Z Z (by simp) (by simp) (by show (1 : Int) * _ ≤ _; omega) (by omega)<|fun i12 => z8 (zAo Z)<|z6<|zSr<|z8 (zMo Z)<|z8 (Gv.idxI (j := 0) Y1 Y0 Z Z Z ⟨_, .head⟩ (by first | rfl | (simp [cI_len, cB_len]; done) | (simp [cI_len, cB_len]; omega)) hG.npos)<|AOps.storeB (j := 0) Y0 Z Z .head (by first | omega | (simp; omega))<|z6<|zSr<|z8 (zAr Z)<|z6<|zSr<|z8 (y1 (cps := [(0, [_]), (1, [_])]) (rs := [_, _]) pl174 Z Z Z)<|AOps.buildSliceO (cps := [(0, [_, _])]) (rs := [_, _]) ps175_1 Z Z Z Z Z<|fun i16 => z8 (zAo Z)<|z6<|adopt_wp (t := 4) (k := 1) (T := 3) Z<|fun i4 => y4 (zb (zc .t1))<|ze<|zi<|y7 (γ := Nat × Nat × Nat) [1, 3] (fun g => [(4, .own g.2.1 (dfsN (EndsOf f) f.blocks.length g.1).2.1.length), (5, .own g.2.2 (dfsN (EndsOf f) f.blocks.length g.1).2.2.length)]) (fun g => [(g.2.2, .grow 2 174 (stC (dfsN (EndsOf f) f.blocks.length g.1).2.2)), (g.2.1, .grow 1 3 (cI (dfsN (EndsOf f) f.blocks.length g.1).2.1)), (i12, .grow 1 4 (cB (dfsN (EndsOf f) f.blocks.length g.1).1))]) (fun g => g.1 ≤ 4 * f.blocks.length ∧ (dfsN (EndsOf f) f.blocks.length g.1).1.length = f.blocks.length) (fun g => dleft (dfsN (EndsOf f) f.blocks.length g.1)) (0, i4, i16) zR2 zLe (⟨qd _, by simp [dfsN, dfs0]⟩) ?_
 rintro ⟨k, io, il⟩ ⟨hk, hsl⟩
 try dsimp only at *
 have hI := dfsN_inv hG.toEOk k
 have hlen := dfs_lens (k := k) hG.toEOk
 have hlt := dfs_left hG.toEOk k
 have hstep : dfsN (EndsOf f) f.blocks.length (k + 1) = dstep (EndsOf f) (dfsN (EndsOf f) f.blocks.length k) := rfl
 rcases hx : dfsN (EndsOf f) f.blocks.length k with ⟨seen, out, st⟩
 rw [hx] at hI hlen hlt hstep hsl
 dsimp only at hlen hlt hsl
 cases st with
 | nil =>
 ·refine ze<|zSr<|z8 (zMo Z)<|z8 (Gv.lenO Zz Z)<|z8 (q7 Z Z)<|z6<|yl Z (by simp) ?_
  have hfin := dfs_still (E := EndsOf f) (n := f.blocks.length) (k := k) (by rw [hx]) hk
  refine y5<|zSr<|z8 (zMo Z)<|yv Z (yb (.r (.l (.r (.rest _))))) (hrev out io 3 (by omega)) ?_
  rintro r82 O82 ⟨rfl, rfl⟩
  refine z6<|y4 (GStep.knowI (t := 4) Z .head (by simp))<|zSr<|zVzMf Z<|z8 (zAf Z)<|z6<|zk<|zm (x := .fro _ _) Z ?_
  unfold orderT; rw [hfin, hx]; rfl
  | cons q r =>
 ·obtain ⟨b, j⟩ := q
  have hbr := hI.rng b (by simp)
  have hbl : b.toNat < f.blocks.length := by omega
  have hEb : EndsOf f b = endsL f.blocks[b.toNat].term := EndsOf_get hbr.1 hbl
  have hjl := (hI.part (b, j) (by simp)).1
  dsimp only at hjl
  have hmn : dleft (dfsN (EndsOf f) f.blocks.length (k + 1)) < dleft (dfsN (EndsOf f) f.blocks.length k) := by rw [hstep, hx]; exact DInv.less hG.toEOk hI (by simp)
  have hk2 : k + 1 ≤ 4 * f.blocks.length := by simp at hlt; omega
  have hsn : (dfsN (EndsOf f) f.blocks.length (k + 1)).1.length = f.blocks.length := (dfsN_inv hG.toEOk (k + 1)).len
  rw [dstep_cons] at hstep
  rw [hx] at hmn
  rw [stC_cons]
  simp only [List.length_cons] at hlen ⊢
  refine ze<|zSr<|z8 (zMo Z)<|z8 (Gv.lenO Zz Z)<|z8 (q7 Z Z)<|z6<|yq Z (by simp)<|zj<|zi<|zSr<|z8 (zMo Z)<|z8 (zMo Z)<|z8 (Gv.lenO Zz Z)<|z8 (Gv.sub Z Z (by unfold I64; show _ ∧ ((r.length + 1 : Nat) : Int) - 1 ≤ _; omega))<|z8 (Gv.idxOL (j := r.length) Zz sizeOf174 Z Z (by show ((r.length + 1 : Nat) : Int) - 1 = _; omega) ⟨_, .head⟩ (by simp) (by show r.length < r.length + 1; omega) (show r.length * 2 = (stC r).length by rw [stC_len]))<|z8 (zAp Z)<|z6<|ze<|y6 (fun j => false) (by kernel_rfl) Z (yb (.r (.rest _)))<|zTk 0 Z (zFF jd Z jw Z Z)<|zTk 1 Z (zLf Z3 Z)<|zTk 2 Z (zMp Z)<|zTk 3 Z (ym Z)<|zTk 4 Z (zf Y3 Z j8 (by decide) Z Z)<|zTk 5 Z (Gv.loadL (c := .int _ _) (j := 0) jl Z Z ⟨_, .head⟩ Z)<|zTk 6 Z (zIM b.toNat jc jm Z Z (by omega) (qa hbl))<|zTk 7 Z (zFF j7 Z jv Z Z)<|zTk 8 Z (yo Zy jv Z Z)<|zOn 9 Z<|zg (ends_spec _) Z<|z6<|zTk 10 Z (zAf Z)<|zDn<|ze<|zSr<|z8 (zMp Z)<|z8 (ym Z)<|z8 (zf Y3 Z j8 (by decide) Z Z)<|z8 (Gv.loadL (c := .int _ _) (j := 1) jl Z Z ⟨_, .head⟩ Z)<|zVzMf Z<|zVGvlenM j6 Z ?_
  refine zVGveqlI Z Z<|z6<|y3 Z (fun ce=>?_) (fun ce=>?_)
  ·have hje : j = (EndsOf f b).length := by rw [hEb]; have h0 : (j : Int) = ((endsL f.blocks[b.toNat].term).length : Int) := (by simpa using ce); omega
   rw [if_pos hje] at hstep
   refine zSr<|z8 (zMo Z)<|z8 (zMp Z)<|z8 (ym Z)<|z8 (zf Y3 Z j8 (by decide) Z Z)<|z8 (Gv.loadL (c := .int _ _) (j := 0) jl Z Z ⟨_, .head⟩ Z)<|zr (rows := [[_]]) ps23_1 Z Z Z Z Z<|zq (k := 1) j6 jz Z Z Z Z Z (fun _ => .t1) (by rw [cI_len]; omega) (by decide) Z (by show (out.length + 1) * 8 ≤ _; omega) (by show out.length + 1 ≤ _; omega)<|fun i48 => z8 (zAo Z)<|z6<|zSr<|z8 (zMo Z)<|z8 (zMo Z)<|z8 (Gv.lenO Zz Z)<|z8 (Gv.sub Z Z (by unfold I64; show _ ∧ ((r.length + 1 : Nat) : Int) - 1 ≤ _; omega))<|AOps.cutLast (j := r.length) Zz sizeOf174 Z Z (by show ((r.length + 1 : Nat) : Int) - 1 = _; omega) .head (by decide) (by rw [stC_len])<|z8 (zAo Z)<|z6<|y5 ?_
   exact ⟨(k + 1, i48, il), zR2, ⟨(by rw [hstep, qg]; rfl), (by rw [hstep]; rfl), trivial⟩, ⟨_, (.refl _), by rw [hstep]; dsimp only; rw [← cI_app]; rfl⟩, ⟨hk2, hsn⟩, by exact hmn⟩
  ·have hje : ¬ j = (EndsOf f b).length := by rw [hEb]; have h0 : ¬ (j : Int) = ((endsL f.blocks[b.toNat].term).length : Int) := (by simpa using ce); omega
   have hj2 : j < (endsL f.blocks[b.toNat].term).length := by rw [← hEb]; omega
   rw [if_neg hje] at hstep
   obtain ⟨c, hc⟩ : ∃ c, ge (EndsOf f b) j = c := ⟨_, rfl⟩
   have hcj : (endsL f.blocks[b.toNat].term)[j]? = some c := by rw [← hEb]; unfold ge at hc; rw [← hc, hEb, qa hj2]; rfl
   have hcr := hG.rng b hbr.1 hbr.2 c (by rw [hEb]; exact qj hcj)
   rw [hc] at hstep
   have hgs : seen[c.toNat]? = some (gb seen c) := by unfold gb; rw [qa (by omega)]; rfl
   have hl2 := hG.len b
   rw [hEb] at hl2
   refine zj<|zSr<|zVzMf Z<|z8 (zMp Z)<|z8 (ym Z)<|z8 (zf Y3 Z j8 (by decide) Z Z)<|z8 (Gv.loadL (c := .int _ _) (j := 1) jl Z Z ⟨_, .head⟩ Z)<|z8 (zIM j j6 j8 Z Z Z hcj)<|zVzLi jl Z<|zVzAi Z<|z6<|zSr<|z8 (zMp Z)<|z8 (ym Z)<|z8 (zf Y3 Z j8 (by decide) Z Z)<|z8 (Gv.loadL (c := .int _ _) (j := 1) jl Z Z ⟨_, .head⟩ Z)<|zVzAd Z Z<|z8 (ym Z)<|z8 (zf Y3 Z j8 (by decide) Z Z)<|AOps.storeL (j := 1) (l := [_]) (new := [_, _]) j8 Z Z Z Z Z Z Z .head Z Z Z<|z6<|zSr<|z8 (zMo Z)<|zVzMi Z<|z8 (Gv.idxI (j := c.toNat) Y1 Y0 Z Z (by omega) ⟨_, .t2⟩ (by first | rfl | (simp [cI_len, cB_len]; done) | (simp [cI_len, cB_len]; omega)) (by omega))<|z8 (Gv.loadB (j := c.toNat) isAgg4 Z ⟨_, .t2⟩ hgs)<|zVGvnot Z<|z6<|y3 Z (fun cs=>?_) (fun cs=>?_)
   ·rw [if_neg (by simpa using cs)] at hstep
    refine zSr<|z8 (zMo Z)<|zVzMi Z<|z8 (Gv.idxI (j := c.toNat) Y1 Y0 Z Z (by omega) ⟨_, .t2⟩ (by first | rfl | (simp [cI_len, cB_len]; done) | (simp [cI_len, cB_len]; omega)) (by omega))<|AOps.storeB (j := c.toNat) Y0 Z Z .t2 (by first | omega | (simp; omega))<|z6<|zRg<|z8 (zMo Z)<|zVzMi Z<|z8 (y1 (cps := [(0, [_]), (1, [_])]) (rs := [_, _]) pl174 Z Z Z)<|zr (rows := [[_, _]]) ps175_1 Z Z Z Z Z<|zq (k := 2) Zz type174 Z Z Z Z Z (fun _ => .head) (by rw [qg, stC_len]; show r.length * 2 + 2 = (r.length + 1) * 2; omega) (by decide) Z (by show (r.length + 1 + 1) * 16 ≤ _; omega) (by show r.length + 1 + 1 ≤ _; omega)<|fun i80 => z8 (zAo Z)<|z6 ?_
    exact ⟨(k + 1, io, i80), zR2, ⟨(by rw [hstep]; rfl), (by rw [hstep]; rfl), trivial⟩, ⟨_, (.refl _), by rw [hstep, stC_cons, stC_cons]; rfl⟩, ⟨hk2, hsn⟩, by exact hmn⟩
   ·rw [if_pos (by simpa using cs)] at hstep
    refine zj ?_
    exact ⟨(k + 1, io, il), zR2, ⟨(by rw [hstep]; rfl), (by rw [hstep]; rfl), trivial⟩, ⟨_, (.refl _), by rw [hstep, stC_cons]; rfl⟩, ⟨hk2, hsn⟩, by exact hmn⟩
end Go.Proofs.YtpojdepccecpgaaGreatDoor
namespace Go.Proofs.YtpojdepccecpgaaGreatDoor
open Go.Proofs.Tryz
section
variable {E : World} {P : Program} {n : Nat} {l : List Oper} {W : Nat → Bool} {Q : AEnv → OL → Prop} {fuel : Nat} {listed : Array Bool} {env : AEnv} {O Os Om : OL}
theorem AAny.many {is : List Nat} (hr : Region.ready .any l.toArray listed = is) (h0 : is ≠ [])
  (h : ∀ k ∈ is, ∃ o, l[k]? = some o ∧ AOps P E l.toArray (fun env' Om' => AAny P E l W Q fuel (listed.setIfInBounds k true) env' Os Om') [o] env Om) : AAny P E l W Q (fuel + 1) listed env Os Om := fun I F ρ w Ls h1 hLs h2 => by
 refine ⟨fun h0' => absurd (hr.symm.trans h0') h0, fun k hk o2 ho2 => ?_⟩
 rw [hr] at hk
 rw [List.getElem?_toArray] at ho2
 obtain ⟨o, e, h⟩ := h k hk
 rw [e] at ho2
 cases ho2
 exact yu (fun ρ' w' ⟨J, env', Om', a, b, c, d⟩ => by
   have hst : stays I.k Ls E w' := by
    obtain ⟨J', L', h3, h4, h5⟩ := c.here
    exact ⟨J', L', a.k.trans h3, h4, h5⟩
   refine ⟨⟨hst.less, .inr hst⟩, AnyV.mono ?_ ?_ (fun _ _ => yz a) _ _ _ _ (d J F ρ' w' Ls b (hLs.mono a) c)⟩
   ·rintro w ⟨J', L', h3, h4⟩; exact ⟨J', L', a.k.trans h3, h4⟩
   ·rintro w ⟨J', L', h3, h4⟩; exact ⟨J', L', a.k.trans h3, h4⟩) _ _ _ (h I (Ls ++ F) ρ w h1 h2)
theorem AAny.four {i j m q : Nat} {o1 o2 o3 o4 : Oper} (hi : l[i]? = some o1) (hj : l[j]? = some o2) (hm : l[m]? = some o3) (hq : l[q]? = some o4) (hr : Region.ready .any l.toArray listed = [i, j, m, q])
  (h1 : AOps P E l.toArray (fun env' Om' => AAny P E l W Q fuel (listed.setIfInBounds i true) env' Os Om') [o1] env Om)
  (h2 : AOps P E l.toArray (fun env' Om' => AAny P E l W Q fuel (listed.setIfInBounds j true) env' Os Om') [o2] env Om)
  (h3 : AOps P E l.toArray (fun env' Om' => AAny P E l W Q fuel (listed.setIfInBounds m true) env' Os Om') [o3] env Om)
  (h4 : AOps P E l.toArray (fun env' Om' => AAny P E l W Q fuel (listed.setIfInBounds q true) env' Os Om') [o4] env Om) : AAny P E l W Q (fuel + 1) listed env Os Om :=
 AAny.many hr (by simp) fun k hk => by
  simp only [List.mem_cons, List.not_mem_nil, or_false] at hk
  rcases hk with rfl | rfl | rfl | rfl
  ·exact ⟨_, hi, h1⟩
  ·exact ⟨_, hj, h2⟩
  ·exact ⟨_, hm, h3⟩
  ·exact ⟨_, hq, h4⟩
end
end Go.Proofs.YtpojdepccecpgaaGreatDoor
namespace Go.Proofs.YtpojdepccecpgaaGreatDoor
open Go.Proofs.Tryz
section
variable {E : World} {P : Program} {ops : Array Oper} {K : AEnv → OL → Prop} {env : AEnv} {O O' O'' : OL} {rest : List Oper}
variable {d ty : Nat} {pos : String} {af : Array Edge} {x y z : Operand} {t u e T : TypeId}
end
set_option linter.defProp false
def yy := @AOps.storeI
def q0 := @Gv.idxI
end Go.Proofs.YtpojdepccecpgaaGreatDoor
