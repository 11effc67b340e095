/- The program's interval functions are the document's. Plain law. No conditions but int64s that aren't empty. -/
import Derived.Test.YtjnpcfpecilejaaGreatDoorHd
import Derived.Sort.Grow
import Derived.Test.YtjnpcfpecilejaaGreatDoorHc
set_option linter.unusedVariables false
set_option linter.unusedSimpArgs false
set_option linter.unusedSectionVars false
namespace Go.Proofs.YtjnpcfpecilejaaGreatDoor
open Go.Proofs.Tryz
def cI (l : List Int) : List AV := l.map (AV.int .i64)
def cB (l : List Bool) : List AV := l.map AV.bool
theorem cI_len (l : List Int) : (cI l).length = l.length := by simp [cI]
theorem cB_len (l : List Bool) : (cB l).length = l.length := by simp [cB]
theorem cI_flat (l : List Int) : (l.map fun x => [AV.int .i64 x]).flatten = cI l := by
 induction l with
 | nil => rfl
 | cons x l ih => simp only [List.map_cons, List.flatten_cons, ih]; rfl
theorem cB_flat (l : List Bool) : (l.map fun x => [AV.bool x]).flatten = cB l := by
 induction l with
 | nil => rfl
 | cons x l ih => simp only [List.map_cons, List.flatten_cons, ih]; rfl
theorem cI_app (l m : List Int) : cI l ++ cI m = cI (l ++ m) := by simp [cI]
theorem cI_set (l : List Int) (j : Nat) (v : Int) : (cI l).set j (.int .i64 v) = cI (l.set j v) := by unfold cI; rw [List.map_set]
theorem cB_set (l : List Bool) (j : Nat) (v : Bool) : (cB l).set j (.bool v) = cB (l.set j v) := by unfold cB; rw [List.map_set]
theorem cI_drop {l : List Int} {j : Nat} {v : Int} (h : l[j]? = some v) : (cI l).drop j = .int .i64 v :: (cI l).drop (j + 1) := by
 obtain ⟨hj, e⟩ := List.getElem?_eq_some_iff.1 h
 rw [List.drop_eq_getElem_cons (by rw [cI_len]; exact hj)]
 unfold cI
 rw [List.getElem_map, e]
theorem cB_drop {l : List Bool} {j : Nat} {v : Bool} (h : l[j]? = some v) : (cB l).drop j = .bool v :: (cB l).drop (j + 1) := by
 obtain ⟨hj, e⟩ := List.getElem?_eq_some_iff.1 h
 rw [List.drop_eq_getElem_cons (by rw [cB_len]; exact hj)]
 unfold cB
 rw [List.getElem_map, e]
theorem cB_rep (n : Nat) (v : Bool) : List.replicate n (AV.bool v) = cB (List.replicate n v) := by simp [cB]
theorem cI_rep_of (I : G) (l : List Int) : RepL I (cI l) (l.map (Value.int .i64)) := by
 unfold cI
 induction l with
 | nil => rfl
 | cons x l ih => exact ⟨_, _, rfl, rfl, ih⟩
theorem cI_un {I : G} : ∀ {l : List Int} {vs : List Value}, RepL I (cI l) vs → vs = l.map (Value.int .i64)
 | [], _, h => h
 | x :: l, _, ⟨v, us, e, h1, h2⟩ => by
  have h1 : v = .int .i64 x := h1
  rw [e, h1, cI_un h2]; rfl
section
variable {E : World} {P : Program} {ops : Array Oper} {K : AEnv → OL → Prop} {env : AEnv} {O O' O'' : OL} {rest : List Oper} {n : Nat}
variable {d ty : Nat} {pos : String} {af : Array Edge} {x y z : Operand} {t u e : TypeId}
theorem Gv.idxI {i n j : Nat} {a : Int} {T : TypeId} {cs : List AV} (ht : P.underlying t = some (.slice e)) (hs : ∀ w, (sizeOf e).run P w = .ok 1 w) (hx : aev env x = .own i n) (hy : aev env y = .int .i64 a) (hi : a = (j : Int)) (hO : Has O i (.grow 1 T cs)) (hn : cs.length = n) (hj : j < n) :
  Gv P env O (Oper.mk (some d) (.indexAddr t x y) ty pos af none) (.po i j) :=
 Gv.idxOL ht hs hx hy hi hO (fun e => by rw [e] at hn; simp at hn; omega) hj (Nat.mul_one j)
theorem Gv.loadI {i j : Nat} {T : TypeId} {l : List Int} {v : Int} (ha : ∀ w, (isAgg t).run P w = .ok false w) (hx : aev env x = .po i j) (hO : Has O i (.grow 1 T (cI l))) (hv : l[j]? = some v) :
  Gv P env O (Oper.mk (some d) (.load t x) ty pos af none) (.int .i64 v) := Gv.load1G ha hx hO (cI_drop hv)
theorem Gv.loadB {i j : Nat} {T : TypeId} {l : List Bool} {v : Bool} (ha : ∀ w, (isAgg t).run P w = .ok false w) (hx : aev env x = .po i j) (hO : Has O i (.grow 1 T (cB l))) (hv : l[j]? = some v) :
  Gv P env O (Oper.mk (some d) (.load t x) ty pos af none) (.bool v) := Gv.load1G ha hx hO (cB_drop hv)
theorem Put.cast {i k : Nat} {T : TypeId} {o : AObj} {cs ds : List AV} (h : Put O i o (.grow k T cs) O') (e : cs = ds) : Put O i o (.grow k T ds) O' := e ▸ h
theorem AOps.storeI {i j : Nat} {T : TypeId} {l : List Int} {v : Int} (hs : ∀ w, (sizeOf t).run P w = .ok 1 w) (hx : aev env x = .po i j) (hy : aev env y = .int .i64 v) (hO : Put O i (.grow 1 T (cI l)) (.grow 1 T (cI (l.set j v))) O') (hb : j < l.length)
  (kk : AOps P E ops K rest env O') : AOps P E ops K (Oper.mk none (.store t x y) ty pos af none :: rest) env O :=
 AOps.storeG1 (cs := cI l) hs hx hy rfl rfl rfl (hO.cast (cI_set l j v).symm) (by rw [cI_len]; exact hb) kk
theorem AOps.storeB {i j : Nat} {T : TypeId} {l : List Bool} {v : Bool} (hs : ∀ w, (sizeOf t).run P w = .ok 1 w) (hx : aev env x = .po i j) (hy : aev env y = .bool v) (hO : Put O i (.grow 1 T (cB l)) (.grow 1 T (cB (l.set j v))) O') (hb : j < l.length)
  (kk : AOps P E ops K rest env O') : AOps P E ops K (Oper.mk none (.store t x y) ty pos af none :: rest) env O :=
 AOps.storeG1 (cs := cB l) hs hx hy rfl rfl rfl (hO.cast (cB_set l j v).symm) (by rw [cB_len]; exact hb) kk
theorem AOps.makeB {i : TypeInfo} {zv : Value} {m : Nat} {k1 k2 : IntKind} {l l' : Int} (ht : P.underlying t = some (.slice e)) (hi : P.info? e = some i) (hz : i.zero = some zv) (hzc : zv.cells = #[.bool false]) (hk : i.size = 1) (hx : aev env x = .int k1 l) (hy : aev env y = .int k2 l')
  (hl : l = (m : Int)) (hl' : l' = (m : Int)) (hb : (i.bytes : Int) * (m : Int) ≤ 281474976710656) (hm : m ≤ 281474976710656) (kk : ∀ j, AOps P E ops K rest (aupd env d (.own j m)) ((j, .grow 1 e (cB (List.replicate m false))) :: O)) :
  AOps P E ops K (Oper.mk (some d) (.makeSlice t x y) ty pos af none :: rest) env O :=
 AOps.make1 ht hi hz hzc hk hx hy hl hl' hb hm rfl fun j => by rw [show lit (.bool false) = AV.bool false from rfl, cB_rep]; exact kk j
theorem GStep.knowI {t i m : Nat} {T : TypeId} {l : List Int} (hv : env t = .own i m) (hO : Pick O i (.grow 1 T (cI l)) O') (hm : l.length = m) : GStep E env O (aupd env t (.fro 1 (l.map fun x => [.int .i64 x]))) O' :=
 GStep.know hv (by rw [cI_flat]; exact hO) (fun r hr => by obtain ⟨_, _, rfl⟩ := List.mem_map.1 hr; rfl) (by decide) (by rw [qq]; exact hm)
theorem GStep.knowB {t i m : Nat} {T : TypeId} {l : List Bool} (hv : env t = .own i m) (hO : Pick O i (.grow 1 T (cB l)) O') (hm : l.length = m) : GStep E env O (aupd env t (.fro 1 (l.map fun x => [.bool x]))) O' :=
 GStep.know hv (by rw [cB_flat]; exact hO) (fun r hr => by obtain ⟨_, _, rfl⟩ := List.mem_map.1 hr; rfl) (by decide) (by rw [qq]; exact hm)
end
structure Enc (α : Type) where
 k : Nat
 val : α → List Value
 pos : 0 < k
 len : ∀ x, (val x).length = k
 one : ∀ x, ∀ u ∈ val x, u.oneCell' = true
variable {α : Type}
def Enc.vs (c : Enc α) (l : List α) : List Value := l.flatMap c.val
def Enc.row (c : Enc α) (x : α) : List AV := (c.val x).map lit
def Enc.av (c : Enc α) (l : List α) : List AV := l.flatMap c.row
theorem Enc.vs_len (c : Enc α) (l : List α) : (c.vs l).length = l.length * c.k := by
 unfold Enc.vs
 induction l with
 | nil => simp
 | cons x l ih => rw [List.flatMap_cons, qp, ih, c.len, List.length_cons, Nat.add_mul]; omega
theorem Enc.av_eq (c : Enc α) (l : List α) : c.av l = (c.vs l).map lit := by
 unfold Enc.av Enc.vs
 induction l with
 | nil => rfl
 | cons x l ih => rw [List.flatMap_cons, List.flatMap_cons, List.map_append, ih]; rfl
theorem Enc.av_len (c : Enc α) (l : List α) : (c.av l).length = l.length * c.k := by rw [c.av_eq, qq, c.vs_len]
theorem Enc.av_app (c : Enc α) (l m : List α) : c.av l ++ c.av m = c.av (l ++ m) := by unfold Enc.av; rw [List.flatMap_append]
theorem Enc.av_push (c : Enc α) (l : List α) (x : α) : c.av l ++ c.row x = c.av (l ++ [x]) := by rw [← c.av_app]; unfold Enc.av; simp
theorem Enc.vs_one (c : Enc α) (l : List α) : ∀ u ∈ c.vs l, u.oneCell' = true := by
 intro u hu
 unfold Enc.vs at hu
 obtain ⟨x, _, hx⟩ := List.mem_flatMap.1 hu
 exact c.one x u hx
theorem Enc.av_un (c : Enc α) {I : G} {l : List α} {vs : List Value} (h : RepL I (c.av l) vs) : vs = c.vs l := by rw [c.av_eq] at h; exact lit_uns h
def eI : Enc Int := ⟨1, fun x => [.int .i64 x], by decide, fun _ => rfl, fun x u hu => by simp at hu; subst hu; rfl⟩
def eP : Enc (Int × Int) := ⟨2, fun p => [.int .i64 p.1, .int .i64 p.2], by decide, fun _ => rfl, fun x u hu => by simp at hu; rcases hu with rfl | rfl <;> rfl⟩
def eE : Enc (Int × Int × Int) := ⟨3, fun p => [.int .i64 p.1, .int .i64 p.2.1, .int .i64 p.2.2], by decide, fun _ => rfl, fun x u hu => by simp at hu; rcases hu with rfl | rfl | rfl <;> rfl⟩
theorem eI_av (l : List Int) : eI.av l = cI l := by
 unfold Enc.av cI
 induction l with
 | nil => rfl
 | cons x l ih => rw [List.flatMap_cons, ih]; rfl
inductive NestR (c : Enc α) (e : TypeId) : List (List α) → List Value → List (Nat × Obj) → Prop
 | nil : NestR c e [] [] []
 | cons {r rs a n cap hs A B} : OwnS c.k e a n cap (c.vs r) A → NestR c e rs hs B → NestR c e (r :: rs) (.slice a n cap :: hs) (A ++ B)
theorem NestR.len {c : Enc α} {e : TypeId} {rows : List (List α)} {hs : List Value} {L : List (Nat × Obj)} (h : NestR c e rows hs L) : hs.length = rows.length := by
 induction h with
 | nil => rfl
 | cons _ _ ih => simp [ih]
def NHole (c : Enc α) (e : TypeId) (rows : List (List α)) (j : Nat) (hs : List Value) (B : List (Nat × Obj)) : Prop :=
 ∀ r' a' n' c' A', OwnS c.k e a' n' c' (c.vs r') A' → ∃ L', NestR c e (rows.set j r') (hs.set j (.slice a' n' c')) L' ∧ L'.Perm (A' ++ B)
theorem NestR.get {c : Enc α} {e : TypeId} {rows : List (List α)} {hs : List Value} {L : List (Nat × Obj)} (h : NestR c e rows hs L) : ∀ {j : Nat} {r : List α}, rows[j]? = some r →
  ∃ a n cap A B, hs[j]? = some (.slice a n cap) ∧ OwnS c.k e a n cap (c.vs r) A ∧ L.Perm (A ++ B) ∧ NHole c e rows j hs B := by
 induction h with
 | nil => intro j r hj; simp at hj
 | @cons r0 rs a n cap hs A B h1 h2 ih =>
  intro j r hj
  cases j with
  | zero =>
   simp at hj; subst hj
   exact ⟨a, n, cap, A, B, rfl, h1, .refl _, fun r' a' n' c' A' h => ⟨A' ++ B, .cons h h2, .refl _⟩⟩
  | succ j =>
   obtain ⟨a1, n1, c1, A1, B1, g1, g2, g3, g4⟩ := ih (j := j) (r := r) (by simpa using hj)
   refine ⟨a1, n1, c1, A1, A ++ B1, by simpa using g1, g2, ?_, fun r' a' n' c' A' h => ?_⟩
   ·refine (g3.append_left A).trans ?_
    rw [← ql, ← ql]
    exact List.perm_append_comm.append_right B1
   ·obtain ⟨L', k1, k2⟩ := g4 r' a' n' c' A' h
    refine ⟨A ++ L', by simpa using NestR.cons h1 k1, ?_⟩
    refine (k2.append_left A).trans ?_
    rw [← ql, ← ql]
    exact List.perm_append_comm.append_right B1
theorem NestR.rep (c : Enc α) (e : TypeId) : ∀ m : Nat, NestR c e (List.replicate m []) (List.replicate m (.slice none 0 0)) []
 | 0 => .nil
 | m + 1 => by
  have := NestR.cons (c := c) (r := []) (OwnS.nil c.k e) (NestR.rep c e m)
  simpa [List.replicate_succ] using this
def nestO (c : Enc α) (T e : TypeId) (b : Nat) (rows : List (List α)) : AObj := .heap fun L => ∃ hs B, L = (b, .cells hs.toArray T (0, 0)) :: B ∧ NestR c e rows hs B
def nestH (c : Enc α) (T e : TypeId) (b : Nat) (rows : List (List α)) (j n i : Nat) : AObj := .heapG (fun I L => ∃ hs B hd, L = (b, .cells hs.toArray T (0, 0)) :: B ∧ I.h i = some hd ∧ hs[j]? = some (.slice (adr hd.1) n hd.2) ∧ hs.length = rows.length ∧ NHole c e rows j hs B)
 (fun I J L h hp => by obtain ⟨hs, B, hd, h1, h2, h3⟩ := hp; exact ⟨hs, B, hd, h1, h.h _ _ h2, h3⟩)
def nref (b n : Nat) : AV := .raw (.slice (some ⟨b, 0, none⟩) n n)
def nptr (b j : Nat) : AV := .raw (.pointer (some ⟨b, j, none⟩))
theorem OwnS.adr {k : Nat} {e : TypeId} {a : Option Addr} {n c : Nat} {cs : List Value} {A : List (Nat × Obj)} (h : OwnS k e a n c cs A) : ∃ b, a = Go.Proofs.YtjnpcfpecilejaaGreatDoor.adr b := by
 rcases h.2.2 with ⟨e, _⟩ | ⟨b, junk, e, _⟩
 ·exact ⟨none, e⟩
 ·exact ⟨some b, e⟩
section
variable {E : World} {P : Program} {ops : Array Oper} {K : AEnv → OL → Prop} {env : AEnv} {O O' O'' : OL} {rest : List Oper} {n : Nat}
variable {d ty : Nat} {pos : String} {af : Array Edge} {x y z : Operand} {t u e T : TypeId}
theorem AOps.makeNest {i : TypeInfo} {zv : Value} {m : Nat} {k1 k2 : IntKind} {l l' : Int} (ht : P.underlying t = some (.slice T)) (hi : P.info? T = some i) (hz : i.zero = some zv) (hzc : zv.cells = #[.slice none 0 0]) (hk : i.size = 1) (hx : aev env x = .int k1 l) (hy : aev env y = .int k2 l')
  (hl : l = (m : Int)) (hl' : l' = (m : Int)) (hb : (i.bytes : Int) * (m : Int) ≤ 281474976710656) (hm : m ≤ 281474976710656) (c : Enc α) (e : TypeId) (kk : ∀ b, AOps P E ops K rest (aupd env d (nref b m)) ((0, nestO c T e b (List.replicate m [])) :: O)) :
  AOps P E ops K (Oper.mk (some d) (.makeSlice t x y) ty pos af none :: rest) env O := fun I F ρ w h1 h2 => by
 obtain ⟨htop, L, hL, hS⟩ := h2
 refine Ops.make1 ht hi hz hzc hk (evI h1 hx) (evI h1 hy) hl hl' hb hm hS fun b w' hS' => ?_
 exact kk b I F _ _ (h1.upd d rfl) ⟨htop, _, ⟨[(b, .cells (List.replicate m (.slice none 0 0)).toArray T (0, 0))], L, rfl, ⟨List.replicate m (.slice none 0 0), [], rfl, NestR.rep c e m⟩, hL⟩, by simpa using hS'⟩
theorem Gv.idxN {b m j : Nat} {a : Int} (ht : P.underlying t = some (.slice T)) (hs : ∀ w, (sizeOf T).run P w = .ok 1 w) (hx : aev env x = nref b m) (hy : aev env y = .int .i64 a) (hi : a = (j : Int)) (hj : j < m) :
  Gv P env O (Oper.mk (some d) (.indexAddr t x y) ty pos af none) (nptr b j) := qe fun I ρ h => by
 have h1 := evRaw h hx
 have h2 := evI h hy
 subst hi
 have hlt : ((j : Int) < (m : Int)) := by omega
 refine ⟨_, rfl, fun w=>?_⟩
 simp [execOp, h1, h2, Instr.indexAt, Sem.run_bind, run_underlying ht, hs, hlt, addr_add, asIntOf]
 intro h; omega
theorem Gv.lenN {b m : Nat} (ht : P.underlying t = some (.slice T)) (hx : aev env x = nref b m) : Gv P env O (Oper.mk (some d) (.call { callee := .builtin .len, args := #[x], argTypes := #[t] }) ty pos af none) (.int .i64 m) := qe fun I ρ h => by
 have h1 := evRaw h hx
 exact ⟨_, rfl, fun w => by simp [execOp, resolve, h1, invoke, builtin, Builtin.len_, run_underlying ht, goInt]⟩
theorem AOps.nestTake {c : Enc α} {b j m : Nat} {rows : List (List α)} {r : List α} {f : Nat → OL} (ha : ∀ w, (isAgg t).run P w = .ok false w) (hx : aev env x = nptr b j) (hr : rows[j]? = some r)
  (hO : ∀ i, Put O m (nestO c T e b rows) (nestH c T e b rows j r.length i) (f i)) (kk : ∀ i, AOps P E ops K rest (aupd env d (.own i r.length)) ((i, .grow c.k e (c.av r)) :: f i)) :
  AOps P E ops K (Oper.mk (some d) (.load t x) ty pos af none :: rest) env O := fun I F ρ w h1 h2 => by
 obtain ⟨i, hi⟩ := h2.name
 obtain ⟨htop, L, hL, hS⟩ := h2
 have hx := evRaw h1 hx
 obtain ⟨A, B, hp, ⟨hs, B0, rfl, hN⟩, hback⟩ := (hO i).rep hL
 obtain ⟨a, n, cap, A1, B1, g1, g2, g3, g4⟩ := hN.get hr
 obtain ⟨b1, rfl⟩ := g2.adr
 have hn : n = r.length := by have := g2.1; rw [c.vs_len] at this; exact (Nat.eq_of_mul_eq_mul_right c.pos this).symm
 subst hn
 obtain ⟨J, e1, hle, e2, htop'⟩ := hi (b1, cap)
 have hS2 : SL I.k ((b, .cells hs.toArray T (0, 0)) :: (B0 ++ (B ++ F))) E w := hS.perm (by
  have := hp.append_right F
  simpa using this.symm)
 obtain ⟨L', h5, h6⟩ := hback hle (A' := (b, .cells hs.toArray T (0, 0)) :: B1) ⟨hs, B1, (b1, cap), rfl, e2, g1, hN.len, g4⟩
 refine Ops.load1 (I := I.k) (O := (b, .cells hs.toArray T (0, 0)) :: (B0 ++ (B ++ F))) ha hS2 hx (.inr ⟨_, _, _, .head _, by rw [List.getElem?_toArray]; exact g1⟩) ?_
 refine q3 (fun _ _ => qb hle) _ _ _ (kk i J F _ _ ((h1.mono hle).upd d ⟨b1, cap, e2, rfl⟩) ⟨htop', A1 ++ L', ⟨A1, L', rfl, ⟨b1, cap, _, c.vs r, e2, by rw [c.av_eq]; exact lit_reps J _, c.vs_one r, g2⟩, h5⟩, ?_⟩)
 rw [e1]
 refine hS2.perm<|List.Perm.trans ?_ (List.Perm.cons _ ((g3.append_right (B ++ F)).symm))
 have h7 : (A1 ++ L' ++ F).Perm (A1 ++ ((b, Obj.cells hs.toArray T (0, 0)) :: (B1 ++ B)) ++ F) := (h6.append_left A1).append_right F
 refine h7.trans ?_
 simp only [ql, List.cons_append]
 exact List.perm_middle
theorem AOps.nestPut {c : Enc α} {b j m i i0 n0 n1 k : Nat} {rows : List (List α)} {r : List α} {cs : List AV} (hs1 : ∀ w, (sizeOf t).run P w = .ok 1 w) (hx : aev env x = nptr b j) (hy : aev env y = .own i n1) (hj : j < rows.length)
  (hP0 : Pick O i (.grow k e cs) O') (hO : Put O' m (nestH c T e b rows j n0 i0) (nestO c T e b (rows.set j r)) O'') (hk : k = c.k) (hcs : cs = c.av r) (hn1 : r.length = n1) (kk : AOps P E ops K rest env O'') :
  AOps P E ops K (Oper.mk none (.store t x y) ty pos af none :: rest) env O := fun I F ρ w h1 h2 => by
 obtain ⟨htop, L, hL, hS⟩ := h2
 have hP : Pick O i (.grow c.k e (c.av r)) O' := by subst hk hcs; exact hP0
 have hx := evRaw h1 hx
 have h3 := h1.ev y
 rw [hy] at h3
 obtain ⟨b1, c1, e1, ey⟩ := h3
 obtain ⟨A, B, hp, ⟨b1', c1', n', vs, e2, hvs, hvc, hown⟩, hB⟩ := hP.rep hL
 simp only at e2
 rw [e1] at e2
 simp only [Option.some.injEq, Prod.mk.injEq] at e2
 obtain ⟨rfl, rfl⟩ := e2
 have hv := c.av_un hvs
 subst hv
 have hnn : n' = n1 := by have := hown.1; rw [c.vs_len, hn1] at this; exact (Nat.eq_of_mul_eq_mul_right c.pos this).symm
 subst hnn
 obtain ⟨A2, B2, hp2, ⟨hs, B0, hd, rfl, _, hsj, hsl, hole⟩, hback⟩ := hO.rep hB
 obtain ⟨L', k1, k2⟩ := hole r _ _ _ A hown
 have hS2 : SL I.k ([(b, .cells hs.toArray T (0, 0))] ++ (A ++ (B0 ++ (B2 ++ F)))) E w := hS.perm (by
  refine List.Perm.trans ?_ ((hp.append_right F).symm)
  refine List.Perm.trans ?_ (((hp2.append_left A).append_right F).symm)
  simp only [ql, List.cons_append, List.nil_append]
  exact (List.perm_middle).symm)
 refine Ops.store1 (cs := hs) (off := j) hs1 hx ey rfl (by rw [hsl]; exact hj) hS2 fun w' hS' => ?_
 obtain ⟨L2, h7, h8⟩ := hback (G.le.refl I) (A' := (b, .cells (hs.set j (.slice (adr b1) n' c1)).toArray T (0, 0)) :: L') ⟨_, L', rfl, k1⟩
 refine kk I F _ _ h1 ⟨htop, L2, h7, hS'.perm ?_⟩
 refine (h8.append_right F).trans ?_
 simp only [List.cons_append, List.nil_append, ql]
 refine List.Perm.cons _ ?_
 have := k2.append_right (B2 ++ F)
 simpa [ql] using this
theorem GStep.nestBack {c : Enc α} {b j m i : Nat} {rows : List (List α)} {r : List α} (hP : Pick O i (.grow c.k e (c.av r)) O') (hO : Put O' m (nestH c T e b rows j r.length i) (nestO c T e b (rows.set j r)) O'') : GStep E env O env O'' := fun I F ρ w h1 h2 => by
 obtain ⟨htop, L, hL, hS⟩ := h2
 obtain ⟨A, B, hp, ⟨b1, c1, n', vs, e2, hvs, hvc, hown⟩, hB⟩ := hP.rep hL
 have hv := c.av_un hvs
 subst hv
 have hnn : n' = r.length := by have := hown.1; rw [c.vs_len] at this; exact (Nat.eq_of_mul_eq_mul_right c.pos this).symm
 subst hnn
 obtain ⟨A2, B2, hp2, ⟨hs, B0, hd, rfl, e3, hsj, hsl, hole⟩, hback⟩ := hO.rep hB
 simp only at e2
 rw [e2] at e3
 simp only [Option.some.injEq] at e3
 subst e3
 obtain ⟨L', k1, k2⟩ := hole r _ _ _ A hown
 have hsame : hs.set j (.slice (adr b1) r.length c1) = hs := by
  obtain ⟨h9, h10⟩ := List.getElem?_eq_some_iff.1 hsj
  refine List.ext_getElem? fun k=>?_
  by_cases ek : k = j
  ·subst ek; rw [List.getElem?_set_self h9, hsj]
  ·rw [List.getElem?_set_ne (fun e => ek e.symm)]
 rw [hsame] at k1
 obtain ⟨L2, h7, h8⟩ := hback (G.le.refl I) (A' := (b, .cells hs.toArray T (0, 0)) :: L') ⟨_, L', rfl, k1⟩
 refine ⟨I, .refl _, h1, htop, L2, h7, hS.perm ?_⟩
 refine (h8.append_right F).trans<|List.Perm.trans ?_ ((hp.append_right F).symm)
 refine List.Perm.trans ?_ (((hp2.append_left A).append_right F).symm)
 simp only [ql, List.cons_append, List.nil_append]
 refine List.Perm.trans ?_ (List.perm_middle).symm
 refine List.Perm.cons _ ?_
 have := k2.append_right (B2 ++ F)
 simpa [ql] using this
theorem SL.freezeAllN : ∀ {A : List (Nat × Obj)} {I : Ghost} {F : List (Nat × Obj)} {E w : World}, SL I (A ++ F) E w → ∃ J, I.le J ∧ SL J F E w ∧ ∀ x ∈ A, J x.1 = some x.2
 | [], I, F, E, w, h => ⟨I, .refl _, h, fun _ h => by cases h⟩
 | (b, o) :: A, I, F, E, w, h => by
  obtain ⟨h1, h2⟩ := SL.freeze (show SL I ((b, o) :: (A ++ F)) E w from h)
  obtain ⟨J, h3, h4, h5⟩ := SL.freezeAllN h2
  refine ⟨J, h1.trans h3, h4, fun x hx => ?_⟩
  rcases List.mem_cons.1 hx with rfl | hx
  ·exact h3 _ _ (Ghost.put_same _ _ _)
  ·exact h5 x hx
theorem OwnS.fro {c : Enc α} {I : G} {e : TypeId} {a : Option Addr} {n cap : Nat} {r : List α} {A : List (Nat × Obj)} (h : OwnS c.k e a n cap (c.vs r) A) (hI : ∀ x ∈ A, I.k x.1 = some x.2) : RepV I (.fro c.k (r.map c.row)) (.slice a n cap) := by
 obtain ⟨h1, h2, h3⟩ := h
 have hn : n = r.length := by rw [c.vs_len] at h1; exact (Nat.eq_of_mul_eq_mul_right c.pos h1).symm
 subst hn
 rcases h3 with ⟨rfl, rfl, _⟩ | ⟨b, junk, rfl, rfl, hj⟩
 ·have h0 : r = [] := List.eq_nil_of_length_eq_zero (by omega)
  subst h0
  exact ⟨none, 0, 0, rfl, rfl, Nat.le_refl _, fun _ => rfl, trivial⟩
 ·have hb := hI _ (.head _)
  simp only at hb
  have hflat : (r.map c.row).flatten = (c.vs r).map lit := by rw [← c.av_eq]; unfold Enc.av; rw [List.flatMap]
  refine ⟨_, _, _, rfl, by simp, h2, fun e => (by cases e), RepR.of_flat hb (r.map c.row) (c.vs r) 0 (fun x hx => by obtain ⟨y, _, rfl⟩ := List.mem_map.1 hx; unfold Enc.row; rw [qq, c.len]) (by rw [hflat]; exact lit_reps I _) fun i u hu => ?_⟩
  rw [Nat.zero_mul, Nat.zero_add, List.getElem?_toArray, List.getElem?_append_left (List.getElem?_eq_some_iff.1 hu).1]
  exact hu
theorem NestR.fro {c : Enc α} {I : G} {e : TypeId} {rows : List (List α)} {hs : List Value} {B : List (Nat × Obj)} (h : NestR c e rows hs B) (hI : ∀ x ∈ B, I.k x.1 = some x.2) : RepL I (rows.map fun r => .fro c.k (r.map c.row)) hs := by
 induction h with
 | nil => rfl
 | cons h1 _ ih => exact ⟨_, _, rfl, h1.fro fun x hx => hI x (List.mem_append_left _ hx), ih fun x hx => hI x (List.mem_append_right _ hx)⟩
def froN (c : Enc α) (rows : List (List α)) : AV := .fro 1 (rows.map fun r => [.fro c.k (r.map c.row)])
theorem nest_know {c : Enc α} {I : G} {F : List (Nat × Obj)} {E w : World} {b m : Nat} {rows : List (List α)} (hO : Pick O m (nestO c T e b rows) O') (h : SLA I O F E w) : ∃ J B, I.le J ∧ RepOs I O' B ∧ (∃ top, ∀ i, top ≤ i → J.h i = none) ∧ SL J.k (B ++ F) E w ∧ RepV J (froN c rows) (.slice (some ⟨b, 0, none⟩) rows.length rows.length) := by
 obtain ⟨htop, L, hL, hS⟩ := h
 obtain ⟨A, B, hp, ⟨hs, B0, rfl, hN⟩, hB⟩ := hO.rep hL
 have hS2 : SL I.k (((b, .cells hs.toArray T (0, 0)) :: B0) ++ (B ++ F)) E w := hS.perm (by rw [← ql]; exact (hp.append_right F).symm)
 obtain ⟨J, h1, h2, h3⟩ := SL.freezeAllN hS2
 have hle : I.le ⟨J, I.h⟩ := ⟨h1, fun _ _ h => h⟩
 refine ⟨⟨J, I.h⟩, B, hle, hB, htop, h2, ?_⟩
 have hb := h3 _ (.head _)
 simp only at hb
 have hrep := hN.fro (I := ⟨J, I.h⟩) fun x hx => h3 x (.tail _ hx)
 refine ⟨_, _, _, rfl, by simp, Nat.le_refl _, fun e => (by cases e), RepR.intro fun j row hj => ?_⟩
 rw [qr] at hj
 obtain ⟨r, hr, rfl⟩ := Option.map_eq_some_iff.1 hj
 obtain ⟨v, hv1, hv2⟩ := hrep.get (j := j) (x := .fro c.k (r.map c.row)) (by rw [qr, hr]; rfl)
 refine ⟨b, 0, [v], rfl, rfl, RepL.one hv2, fun i u hu => ?_⟩
 cases i with
 | zero =>
  simp at hu; subst hu
  exact ⟨_, _, _, hb, by rw [List.getElem?_toArray, show 0 + (0 + j) * 1 + 0 = j by omega]; exact hv1⟩
 | succ i => simp at hu
theorem GStep.nestKnow {c : Enc α} {s b m n : Nat} {rows : List (List α)} (hv : env s = nref b n) (hO : Pick O m (nestO c T e b rows) O') (hn : rows.length = n) : GStep E env O (aupd env s (froN c rows)) O' := fun I F ρ w h1 h2 => by
 obtain ⟨J, B, hle, hB, htop, hS, hrep⟩ := nest_know hO h2
 refine ⟨J, hle, fun q=>?_, htop, B, hB.mono hle, hS⟩
 unfold aupd
 cases hb : Nat.beq q s with
 | false => exact RepV.mono hle _ _ (h1 q)
 | true =>
  have : q = s := Nat.eq_of_beq_eq_true hb
  subst this
  have h4 := h1 q
  rw [hv] at h4
  have h4 : ρ q = .slice (some ⟨b, 0, none⟩) n n := h4
  rw [h4, ← hn]; exact hrep
theorem GStep.nestKnowC {c : Enc α} {off b m n i : Nat} {T' : TypeId} {cs : List AV} {rows : List (List α)} (hO : Pick O m (nestO c T e b rows) O') (hP : Put O' i (.cells T' cs) (.cells T' (cs.set off (froN c rows))) O'') (hc : cs[off]? = some (nref b n)) (hn : rows.length = n) : GStep E env O env O'' := fun I F ρ w h1 h2 => by
 obtain ⟨J, B, hle, hB, htop, hS, hrep⟩ := nest_know hO h2
 obtain ⟨L', h5, h6⟩ := Put.same (F := F) (E := E) (w := w) hle (.inr trivial) hP hc (fun v hv => by
  have hv : v = .slice (some ⟨b, 0, none⟩) n n := hv
  rw [hv, ← hn]; exact hrep) hB
 exact ⟨J, hle, h1.mono hle, htop, L', h5, hS.perm (h6.symm.append_right F)⟩
end
end Go.Proofs.YtjnpcfpecilejaaGreatDoor
namespace Go.Proofs.YtjnpcfpecilejaaGreatDoor
open Go.Proofs.Tryz
open Go.Proofs
abbrev Ejk := Int × Int × Int
def encE (e : Ejk) : List AV := [.int .i64 e.1, .int .i64 e.2.1, .int .i64 e.2.2]
def eC (l : List Ejk) : List AV := eE.av l
theorem eC_len (l : List Ejk) : (eC l).length = l.length * 3 := eE.av_len l
theorem eC_push (l : List Ejk) (e : Ejk) : eC l ++ encE e = eC (l ++ [e]) := eE.av_push l e
def toldB (r : Rng) (n : Int) : Bool := !decide (r.2 < r.1) && (decide (n ≠ m64) && decide (n ≠ M64))
def endN (f : PFunc) (l : List Rng) (up : Bool) (v : Int) (other : Bool) : Int := if up ≠ other then (ofR f l v).2 else (ofR f l v).1
def putIf (c : Bool) (e : Ejk) : List Ejk := if c then [e] else []
def x0 (x : PInst) : Int := (x.args[0]?).getD 0
def x1 (x : PInst) : Int := (x.args[1]?).getD 0
def n0 (f : PFunc) : Int := f.vars.length
def endE (f : PFunc) (l : List Rng) (up : Bool) (v : Int) (other : Bool) (to from_ : Int) (s : Int) : List Ejk := putIf (toldB (ofR f l v) (endN f l up v other)) (from_, to, s * endN f l up v other)
def ownE (f : PFunc) (l : List Rng) (up : Bool) (v : Int) : List Ejk := endE f l up v false v (n0 f) 1
def fitsX (f : PFunc) (l : List Rng) (x : PInst) : Bool := decide ((ofR f l (x0 x)).2 < (ofR f l (x0 x)).1 ∨ (ofR f l (x1 x)).2 < (ofR f l (x1 x)).1 ∨ cornF (x.op - 2).toNat (ofR f l (x0 x)) (ofR f l (x1 x)))
def sumE (f : PFunc) (l : List Rng) (up : Bool) (x : PInst) (blk at_ : Int) : List Ejk :=
 if (fitsX f l x || chkX f x blk at_) = true then
  (if x.op = 3 then endE f l up (x1 x) true x.dst (x0 x) (-1) else endE f l up (x1 x) false x.dst (x0 x) 1 ++ endE f l up (x0 x) false x.dst (x1 x) 1)
 else []
def posB (f : PFunc) (l : List Rng) (v : Int) : Bool := toldB (ofR f l v) (ofR f l v).1 && decide (0 ≤ (ofR f l v).1)
def restP1 (f : PFunc) (l : List Rng) (x : PInst) : Bool := if x.op = 5 then posB f l (x0 x) && posB f l (x1 x) else posB f l (x0 x)
def restE (f : PFunc) (l : List Rng) (up : Bool) (x : PInst) : List Ejk :=
 (if restP1 f l x = true then [if up = true then (x0 x, x.dst, 0) else (n0 f, x.dst, 0)] else []) ++ putIf (decide (x.op = 6) && (posB f l (x1 x) && up)) (x1 x, x.dst, -1)
def piE (up : Bool) (x : PInst) : List Ejk :=
 (x0 x, x.dst, 0) :: (if up = true ∧ x.num = 0 then [(x1 x, x.dst, -1)]
  else if (up = true ∧ (x.num = 1 ∨ x.num = 2)) ∨ (up = false ∧ (x.num = 2 ∨ x.num = 3)) then [(x1 x, x.dst, 0)]
  else if up = false ∧ x.num = 4 then [(x1 x, x.dst, 1)] else [])
def instE (f : PFunc) (l : List Rng) (up : Bool) (x : PInst) (blk at_ : Int) : List Ejk :=
 if x.op = 0 then [(n0 f, x.dst, x.num)] else if x.op = 1 ∨ x.op = 12 ∨ x.op = 15 then [(x0 x, x.dst, 0)]
 else if x.op = 2 ∨ x.op = 3 then sumE f l up x blk at_ else if x.op = 5 ∨ x.op = 6 then restE f l up x
 else if x.op = 16 then [(n0 f, x.dst, 0)] else if x.op = 25 then piE up x
 else if x.op = 26 then [(x0 x, x.dst, 0), if up = true then (x1 x, x.dst, -1) else (n0 f, x.dst, 0)] else []
def varE (f : PFunc) (l : List Rng) (up : Bool) (v : Nat) : List Ejk := if (makerT f v).1 < 0 ∧ tyV f v ≠ 1 then ownE f l up v else []
def stepE (f : PFunc) (l : List Rng) (up : Bool) (x : PInst) (blk at_ : Int) : List Ejk := if 0 ≤ x.dst ∧ tyV f x.dst ≠ 1 then instE f l up x blk at_ ++ ownE f l up x.dst else []
def varsE (f : PFunc) (l : List Rng) (up : Bool) (k : Nat) : List Ejk := (List.range k).flatMap (varE f l up)
def insE (f : PFunc) (l : List Rng) (up : Bool) (i : Nat) (xs : List PInst) : List Ejk := xs.zipIdx.flatMap fun q => stepE f l up q.1 i q.2
def blksE (f : PFunc) (l : List Rng) (up : Bool) (k : Nat) : List Ejk := (f.blocks.take k).zipIdx.flatMap fun b => insE f l up b.2 b.1.insts
def edgesE (f : PFunc) (l : List Rng) (up : Bool) : List Ejk := varsE f l up f.vars.length ++ blksE f l up f.blocks.length
theorem varsE_succ (f : PFunc) (l : List Rng) (up : Bool) (k : Nat) : varsE f l up (k + 1) = varsE f l up k ++ varE f l up k := by unfold varsE; rw [List.range_succ, List.flatMap_append]; simp
theorem insE_succ (f : PFunc) (l : List Rng) (up : Bool) (i : Nat) {xs : List PInst} {j : Nat} (h : j < xs.length) : insE f l up i (xs.take (j + 1)) = insE f l up i (xs.take j) ++ stepE f l up xs[j] i j := by
 unfold insE; rw [zipTake h, List.flatMap_append]; simp
theorem blksE_succ {f : PFunc} (l : List Rng) (up : Bool) {k : Nat} (h : k < f.blocks.length) : blksE f l up (k + 1) = blksE f l up k ++ insE f l up k f.blocks[k].insts := by
 unfold blksE; rw [zipTake h, List.flatMap_append]; simp
theorem putIf_len (c : Bool) (e : Ejk) : (putIf c e).length ≤ 1 := by unfold putIf; split <;> simp
theorem endE_len (f : PFunc) (l : List Rng) (up : Bool) (v : Int) (o : Bool) (a b s : Int) : (endE f l up v o a b s).length ≤ 1 := putIf_len _ _
theorem instE_len (f : PFunc) (l : List Rng) (up : Bool) (x : PInst) (blk at_ : Int) : (instE f l up x blk at_).length ≤ 2 := by
 have h1 := endE_len f l up
 unfold instE
 split
 ·simp
 split
 ·simp
 split
 ·unfold sumE
  split
  ·split
   ·have := h1 (x1 x) true x.dst (x0 x) (-1); omega
   ·have a := h1 (x1 x) false x.dst (x0 x) 1
    have b := h1 (x0 x) false x.dst (x1 x) 1
    rw [qp]; omega
  ·simp
 split
 ·unfold restE
  have a := putIf_len (decide (x.op = 6) && (posB f l (x1 x) && up)) (x1 x, x.dst, -1)
  rw [qp]
  split <;> simp <;> omega
 split
 ·simp
 split
 ·unfold piE; (repeat' split) <;> simp
 split
 ·simp
 ·simp
theorem stepE_len (f : PFunc) (l : List Rng) (up : Bool) (x : PInst) (blk at_ : Int) : (stepE f l up x blk at_).length ≤ 3 := by
 unfold stepE
 split
 ·have a := instE_len f l up x blk at_
  have b := endE_len f l up x.dst false x.dst (n0 f) 1
  unfold ownE; rw [qp]; omega
 ·simp
theorem varE_len (f : PFunc) (l : List Rng) (up : Bool) (k : Nat) : (varE f l up k).length ≤ 1 := by
 unfold varE
 split
 ·exact endE_len _ _ _ _ _ _ _ _
 ·simp
theorem varsE_len (f : PFunc) (l : List Rng) (up : Bool) : ∀ k, (varsE f l up k).length ≤ k
 | 0 => by simp [varsE]
 | k + 1 => by
  have a := varsE_len f l up k
  have b := varE_len f l up k
  rw [varsE_succ, qp]; omega
theorem insE_len (f : PFunc) (l : List Rng) (up : Bool) (i : Nat) (xs : List PInst) : ∀ j, j ≤ xs.length → (insE f l up i (xs.take j)).length ≤ 3 * j
 | 0, _ => by simp [insE]
 | j + 1, hj => by
  have a := insE_len f l up i xs j (by omega)
  have b := stepE_len f l up (xs[j]'(by omega)) i j
  rw [insE_succ f l up i (by omega), qp]; omega
theorem blksE_len (f : PFunc) (l : List Rng) (up : Bool) {m : Nat} (h : ∀ b ∈ f.blocks, b.insts.length ≤ m) : ∀ k, k ≤ f.blocks.length → (blksE f l up k).length ≤ k * (3 * m)
 | 0, _ => by simp [blksE]
 | k + 1, hk => by
  have a := blksE_len f l up h k (by omega)
  have b := insE_len f l up k (f.blocks[k]'(by omega)).insts (f.blocks[k]'(by omega)).insts.length (Nat.le_refl _)
  have c := h _ (qn (show k < f.blocks.length by omega))
  rw [qo] at b
  rw [blksE_succ l up (by omega), qp, Nat.add_mul]; omega
end Go.Proofs.YtjnpcfpecilejaaGreatDoor
namespace Go.Proofs.YtjnpcfpecilejaaGreatDoor
open Go.Proofs.Tryz
section
variable {E : World} {P : Program} {ops : Array Oper} {K : AEnv → OL → Prop} {env : AEnv} {O O' O'' : OL} {rest : List Oper} {n : Nat}
variable {d ty : Nat} {pos : String} {af : Array Edge} {x y z : Operand} {t u e : TypeId}
theorem AOps.cutTo {i k m j : Nat} {a : Int} {T : TypeId} {cs : List AV} (ht : P.underlying t = some (.slice e)) (hs : ∀ w, (sizeOf e).run P w = .ok k w) (hx : aev env x = .own i m) (hy : aev env y = .int .i64 a) (hi : a = (j : Int)) (hO : Put O i (.grow k T cs) (.grow k T (cs.take (j * k))) O')
  (hk : 0 < k) (hj : j * k ≤ cs.length)
  (kk : AOps P E ops K rest (aupd env d (.own i j)) O') : AOps P E ops K (Oper.mk (some d) (.slice t x none (some y) none) ty pos af none :: rest) env O := fun I F ρ w h1 h2 => by
 obtain ⟨htop, L, hL, hS⟩ := h2
 have h3 := h1.ev x
 rw [hx] at h3
 obtain ⟨b, c, e1, e2⟩ := h3
 have h4 := evI h1 hy
 subst hi
 obtain ⟨A, B, hp, ⟨b', c', n', vs, e3, hvs, hvc, h5, h6, h7⟩, hback⟩ := hO.rep hL
 simp only at e3
 rw [e1] at e3
 simp only [Option.some.injEq, Prod.mk.injEq] at e3
 obtain ⟨rfl, rfl⟩ := e3
 have hlen : vs.length = cs.length := hvs.length
 have hjn : j ≤ n' := by
  have : j * k ≤ n' * k := by omega
  exact Nat.le_of_mul_le_mul_right this hk
 have hjc : j ≤ c := by omega
 have hval : (execOp (Go.Proofs.YtjnpcfpecilejaaGreatDoor.ev ρ) (Oper.mk (some d) (.slice t x none (some y) none) ty pos af none)).run P w = .ok (.value (.slice (adr b) j c)) w := by
  have : (if c = 0 then adr b else (adr b).map (·.add (0 * k))) = adr b := by
   split
   ·rfl
   ·cases b <;> simp [adr, Addr.add]
  simp [execOp, Instr.sliceAt, Instr.slice, Instr.sliceBounds, Instr.sliceBound, asIntOf, Sem.run_bind, run_underlying ht, hs, e2, h4, hjc]
  simpa using this
 obtain ⟨L', h8, h9⟩ := hback (G.le.refl I) (A' := A) ⟨b, c, j, vs.take (j * k), e1, hvs.take _, fun u hu => hvc u (List.mem_of_mem_take hu), by rw [List.length_take]; omega, by omega, by
  rcases h7 with h7 | ⟨b2, junk, e4, e5, e6⟩
  ·exact .inl ⟨h7.1, h7.2.1, h7.2.2⟩
  ·exact .inr ⟨b2, vs.drop (j * k) ++ junk, e4, by rw [← ql, List.take_append_drop]; exact e5, by rw [← ql, List.take_append_drop]; exact e6⟩⟩
 exact Ops.val hval (kk I F _ w (h1.upd d ⟨b, c, e1, rfl⟩) ⟨htop, L', h8, hS.perm ((h9.trans hp.symm).append_right F)⟩)
theorem AOps.cutLast {i k m j : Nat} {a : Int} {T : TypeId} {A row : List AV} (ht : P.underlying t = some (.slice e)) (hs : ∀ w, (sizeOf e).run P w = .ok k w) (hx : aev env x = .own i m) (hy : aev env y = .int .i64 a) (hi : a = (j : Int)) (hO : Put O i (.grow k T (A ++ row)) (.grow k T A) O')
  (hk : 0 < k) (hA : A.length = j * k)
  (kk : AOps P E ops K rest (aupd env d (.own i j)) O') : AOps P E ops K (Oper.mk (some d) (.slice t x none (some y) none) ty pos af none :: rest) env O :=
 AOps.cutTo ht hs hx hy hi (hO.cast (by rw [← hA, List.take_left])) hk (by rw [qp]; omega) kk
end
end Go.Proofs.YtjnpcfpecilejaaGreatDoor
namespace Go.Proofs.YtjnpcfpecilejaaGreatDoor
open Go.Proofs.Tryz
open Go.Sort (Holds putRow putCells onCells)
theorem putCells_eq {zs ys : List Int} {junk : List Value} (hl : ys.length = zs.length) : putCells (Value.int .i64) 0 ys.toArray (zs.map (Value.int .i64) ++ junk).toArray = (ys.map (Value.int .i64) ++ junk).toArray := by
 unfold putCells
 apply Array.ext_getElem?
 intro k
 simp only [Array.getElem?_mapIdx, List.getElem?_toArray, qm, true_and, Nat.zero_add, Nat.sub_zero, List.size_toArray]
 by_cases hk : k < ys.length
 ·rw [List.getElem?_append_left (by rw [qq]; omega), List.getElem?_append_left (by rw [qq]; omega), qr, qr, qj hk, qj (by omega : k < zs.length)]
  simp [hk]
 ·rw [List.getElem?_append_right (by rw [qq]; omega), List.getElem?_append_right (by rw [qq]; omega), qq, qq, hl]
  rw [hl] at hk
  simp only [hk, if_false]
  cases junk[k - zs.length]? <;> rfl
theorem SL.turned {I : Ghost} {O : List (Nat × Obj)} {E w : World} {b n : Nat} {zs ys : List Int} {junk : List Value} {T : TypeId} {os : Array Obj} (hl : ys.length = zs.length) (h : SL I ((b, .cells (zs.map (Value.int .i64) ++ junk).toArray T (0, 0)) :: O) E w) :
  SL I ((b, .cells (ys.map (Value.int .i64) ++ junk).toArray T (0, 0)) :: O) E (Go.Sort.grow (putRow (Value.int .i64) (Go.Sort.ahead w n) b 0 ys.toArray) os) := by
 have hb := h.own _ (.head _)
 simp only at hb
 have hlt := lt_of_some hb
 have h1 : SL I ((b, .cells (ys.map (Value.int .i64) ++ junk).toArray T (0, 0)) :: O) E (putRow (Value.int .i64) (Go.Sort.ahead w n) b 0 ys.toArray) := by
  refine h.turn rfl rfl rfl ?_ fun k hk => ?_
  ·show (w.heap.modify b (onCells (putCells (Value.int .i64) 0 ys.toArray)))[b]? = _
   rw [Array.getElem?_modify, if_pos rfl, hb]
   simp only [Option.map_some, onCells, putCells_eq hl]
  ·show (w.heap.modify b (onCells (putCells (Value.int .i64) 0 ys.toArray)))[k]? = _
   rw [Array.getElem?_modify, if_neg (fun e => hk e.symm)]
 exact h1.more rfl rfl rfl fun k hk => Go.Sort.heap_grow_old _ _ hk
theorem ACall.turned {E : World} {P : Program} {f : FuncId} {fn : Func} {c : Code} {g : List Int → List Int} {B : Nat} (hf : P.funcs[f]? = some fn) (hb : fn.body = some c) (hn : fn.name ≠ "runtime.NumGoroutine") (hg : ∀ l, (g l).length = l.length)
  (hC : ∀ (blk cap : Nat) (zs : List Int) (w : World), Holds (Value.int .i64) w blk 0 zs.toArray → blk < w.heap.size → zs.length < B →
   Calls P f #[.slice (some ⟨blk, 0, none⟩) zs.length cap] w fun e w' => e = .returned (.tuple #[]) ∧ ∃ n os, w' = Go.Sort.grow (putRow (Value.int .i64) (Go.Sort.ahead w n) blk 0 (g zs).toArray) os)
  (hN : ∀ (cap : Nat) (w : World), Calls P f #[.slice none 0 cap] w fun e w' => e = .returned (.tuple #[]) ∧ w' = w)
  {l : List Int} {i n : Nat} {T : TypeId} (hl : l.length = n) (hB : n < B) : ACall P E f [.own i n] [(i, .grow 1 T (cI l))] fun r O => r = .tup [] ∧ O = [(i, .grow 1 T (cI (g l)))] := fun I F w vs h1 h2 => by
 obtain ⟨v, us, rfl, ⟨b, c, e1, rfl⟩, h3⟩ := h1
 have h3 : us = [] := h3
 subst h3
 obtain ⟨ht, L, ⟨A, B', e2, ⟨b', c', n', ws, e3, h4, h5, h6⟩, h7⟩, hS⟩ := h2
 have h7 : B' = [] := h7
 subst h7
 rw [qt] at e2
 subst e2
 simp only at e3
 rw [e1] at e3
 simp only [Option.some.injEq, Prod.mk.injEq] at e3
 obtain ⟨rfl, rfl⟩ := e3
 have h4 := cI_un h4
 subst h4
 refine Fn.ofCalls hf hb hn ?_
 obtain ⟨g1, g2, g3⟩ := h6
 rw [qq, Nat.mul_one] at g1
 have hnn : n' = n := by omega
 subst hnn
 rcases g3 with ⟨ea, rfl, rfl⟩ | ⟨b2, junk, ea, rfl, hj⟩
 ·have h0 : n' = 0 := by omega
  subst h0
  have hl0 : l = [] := List.eq_nil_of_length_eq_zero hl
  subst hl0
  have hg0 : g [] = [] := List.eq_nil_of_length_eq_zero (hg [])
  rw [ea]
  refine (hN 0 w).mono fun e w' ⟨he, hw⟩ => ⟨_, he, I, .tup [], _, .refl _, ⟨[], rfl, rfl⟩, ?_, rfl, rfl⟩
  subst hw
  rw [hg0]
  exact ⟨ht, [], ⟨[], [], rfl, ⟨b, 0, 0, [], e1, rfl, by simp, by rw [ea]; exact OwnS.nil 1 T⟩, rfl⟩, hS⟩
 ·rw [ea]
  have hS2 : SL I.k ((b2, .cells (l.map (Value.int .i64) ++ junk).toArray T (0, 0)) :: F) E w := hS
  have hH : Holds (Value.int .i64) w b2 0 l.toArray := fun j hjl => by
   have hj2 : j < l.length := by simpa using hjl
   have hbk := hS2.own _ (.head _)
   simp only at hbk
   refine ⟨?_, ?_⟩
   ·rw [hS2.cell_own, Nat.zero_add, List.getElem?_toArray, List.getElem?_append_left (by rw [qq]; exact hj2), qr, qj hj2]
    simp [hj2]
   ·simp [World.frozen?, hbk]
  have := hC b2 c l w hH (lt_of_some (hS2.own _ (.head _))) (by omega)
  rw [hl] at this
  refine this.mono fun e w' ⟨he, k, os, hw⟩ => ⟨_, he, I, .tup [], _, .refl _, ⟨[], rfl, rfl⟩, ?_, rfl, rfl⟩
  subst hw
  refine ⟨ht, [(b2, .cells ((g l).map (Value.int .i64) ++ junk).toArray T (0, 0))], ⟨_, [], by simp, ⟨b, c, n', (g l).map (Value.int .i64), e1, cI_rep_of I (g l), fun u hu => by obtain ⟨x, _, rfl⟩ := List.mem_map.1 hu; rfl, by rw [qq, hg, hl, Nat.mul_one], g2, .inr ⟨b2, junk, ea, rfl, by rw [qp, qq, hg] ; rw [qp, qq] at hj; exact hj⟩⟩, rfl⟩, ?_⟩
  exact SL.turned (hg l) hS2
end Go.Proofs.YtjnpcfpecilejaaGreatDoor
namespace Go.Proofs.YtjnpcfpecilejaaGreatDoor
open Go.Proofs.Tryz
variable {α : Type}
theorem NestR.inv {c : Enc α} {e : TypeId} {r : List α} {rs : List (List α)} {hs : List Value} {L : List (Nat × Obj)} (h : NestR c e (r :: rs) hs L) :
  ∃ a n cap hs' A B, hs = .slice a n cap :: hs' ∧ L = A ++ B ∧ OwnS c.k e a n cap (c.vs r) A ∧ NestR c e rs hs' B := by
 cases h with
 | cons h1 h2 => exact ⟨_, _, _, _, _, _, rfl, rfl, h1, h2⟩
def nestT (c : Enc α) (T e : TypeId) (b : Nat) (rows : List (List α)) (k : Nat) : AObj := .heap fun L => ∃ (hs : List Value) (B : List (Nat × Obj)), L = (b, .cells hs.toArray T (0, 0)) :: B ∧ hs.length = rows.length ∧ NestR c e (rows.drop k) (hs.drop k) B
section
variable {E : World} {P : Program} {ops : Array Oper} {K : AEnv → OL → Prop} {env : AEnv} {O O' O'' : OL} {rest : List Oper} {n : Nat}
variable {d ty : Nat} {pos : String} {af : Array Edge} {x y z : Operand} {t u e T : TypeId}
theorem GStep.nestTail {c : Enc α} {b m : Nat} {rows : List (List α)} (hO : Put O m (nestO c T e b rows) (nestT c T e b rows 0) O') : GStep E env O env O' := fun I F ρ w h1 h2 => by
 obtain ⟨htop, L, hL, hS⟩ := h2
 obtain ⟨A, B, hp, ⟨hs, B0, rfl, hN⟩, hback⟩ := hO.rep hL
 obtain ⟨L', h5, h6⟩ := hback (G.le.refl I) (A' := (b, .cells hs.toArray T (0, 0)) :: B0) ⟨hs, B0, rfl, hN.len, hN⟩
 exact ⟨I, .refl _, h1, htop, L', h5, hS.perm ((h6.trans hp.symm).append_right F)⟩
theorem AOps.nestShift {c : Enc α} {b k m : Nat} {rows : List (List α)} {r : List α} (ha : ∀ w, (isAgg t).run P w = .ok false w) (hx : aev env x = nptr b k) (hr : rows[k]? = some r)
  (hO : Put O m (nestT c T e b rows k) (nestT c T e b rows (k + 1)) O') (kk : ∀ i, AOps P E ops K rest (aupd env d (.own i r.length)) ((i, .grow c.k e (c.av r)) :: O')) :
  AOps P E ops K (Oper.mk (some d) (.load t x) ty pos af none :: rest) env O := fun I F ρ w h1 h2 => by
 obtain ⟨i, hi⟩ := h2.name
 obtain ⟨htop, L, hL, hS⟩ := h2
 have hx := evRaw h1 hx
 obtain ⟨A, B, hp, ⟨hs, B0, rfl, hl, hN⟩, hback⟩ := hO.rep hL
 obtain ⟨hlt, hrk⟩ := List.getElem?_eq_some_iff.1 hr
 rw [List.drop_eq_getElem_cons hlt, hrk] at hN
 obtain ⟨a, n, cap, hs', A1, B1, g0, rfl, g2, g3⟩ := hN.inv
 have hlt2 : k < hs.length := by omega
 have g0' := g0
 rw [List.drop_eq_getElem_cons hlt2] at g0'
 simp only [List.cons.injEq] at g0'
 obtain ⟨g1, rfl⟩ := g0'
 have g1 : hs[k]? = some (.slice a n cap) := by rw [qj hlt2, g1]
 obtain ⟨b1, rfl⟩ := g2.adr
 have hn : n = r.length := by have := g2.1; rw [c.vs_len] at this; exact (Nat.eq_of_mul_eq_mul_right c.pos this).symm
 subst hn
 obtain ⟨J, e1, hle, e2, htop'⟩ := hi (b1, cap)
 have hS2 : SL I.k ((b, .cells hs.toArray T (0, 0)) :: (A1 ++ B1 ++ (B ++ F))) E w := hS.perm (by
  have := hp.append_right F
  simpa using this.symm)
 obtain ⟨L', h5, h6⟩ := hback hle (A' := (b, .cells hs.toArray T (0, 0)) :: B1) ⟨hs, B1, rfl, hl, g3⟩
 refine Ops.load1 (I := I.k) (O := (b, .cells hs.toArray T (0, 0)) :: (A1 ++ B1 ++ (B ++ F))) ha hS2 hx (.inr ⟨_, _, _, .head _, by rw [List.getElem?_toArray]; exact g1⟩) ?_
 refine q3 (fun _ _ => qb hle) _ _ _ (kk i J F _ _ ((h1.mono hle).upd d ⟨b1, cap, e2, rfl⟩) ⟨htop', A1 ++ L', ⟨A1, L', rfl, ⟨b1, cap, _, c.vs r, e2, by rw [c.av_eq]; exact lit_reps J _, c.vs_one r, g2⟩, h5⟩, ?_⟩)
 rw [e1]
 refine hS2.perm ?_
 have h7 : (A1 ++ L' ++ F).Perm (A1 ++ ((b, Obj.cells hs.toArray T (0, 0)) :: (B1 ++ B)) ++ F) := (h6.append_left A1).append_right F
 refine h7.trans ?_
 simp only [ql, List.cons_append]
 exact List.perm_middle
end
end Go.Proofs.YtjnpcfpecilejaaGreatDoor
namespace Go.Proofs.YtjnpcfpecilejaaGreatDoor
open Go.Proofs.Tryz
variable {α : Type}
def mg (k : Int) : List (Int × List α) → List α
 | [] => []
 | (k', r) :: es => if k = k' then r else mg k es
def ms (k : Int) (r : List α) : List (Int × List α) → List (Int × List α)
 | [] => [(k, r)]
 | (k', r') :: es => if k = k' then (k, r) :: es else (k', r') :: ms k r es
def kv (k : Int) : Value := .int .i64 k
theorem kv_key (k : Int) : MapKept.IsKey (.int .i64) (kv k) := rfl
theorem kv_now (k k' : Int) : Instr.sameNow (.int .i64) (kv k) (kv k') = some (decide (k = k')) := by
 simp [Instr.sameNow, kv]; by_cases h : k = k' <;> simp [h]
def ents (arr : Array MapEntry) : List (Value × Value) := arr.toList.map fun e => (e.key, e.val)
inductive MapR (c : Enc α) (e : TypeId) : List (Int × List α) → List (Value × Value) → List (Nat × Obj) → Prop
 | nil : MapR c e [] [] []
 | cons {k r es a n cap hs A B} : OwnS c.k e a n cap (c.vs r) A → MapR c e es hs B → MapR c e ((k, r) :: es) ((kv k, .slice a n cap) :: hs) (A ++ B)
theorem MapR.get {c : Enc α} {e : TypeId} {k : Int} : ∀ {l : List MapEntry} {es : List (Int × List α)} {L : List (Nat × Obj)} (i : Nat), MapR c e es (l.map fun e => (e.key, e.val)) L →
  (Instr.findNow (.int .i64) (kv k) l i = some none ∧ mg k es = [] ∧ ∀ r' a' n' c' A', OwnS c.k e a' n' c' (c.vs r') A' → ∃ L', MapR c e (ms k r' es) (l.map (fun e => (e.key, e.val)) ++ [(kv k, .slice a' n' c')]) L' ∧ L'.Perm (A' ++ L)) ∨
  (∃ j e0 a n cap A B, Instr.findNow (.int .i64) (kv k) l i = some (some (i + j, .slice a n cap)) ∧ l[j]? = some e0 ∧ e0.key = kv k ∧ OwnS c.k e a n cap (c.vs (mg k es)) A ∧ L.Perm (A ++ B) ∧
   ∀ r' a' n' c' A', OwnS c.k e a' n' c' (c.vs r') A' → ∃ L', MapR c e (ms k r' es) ((l.map fun e => (e.key, e.val)).set j (kv k, .slice a' n' c')) L' ∧ L'.Perm (A' ++ B))
 | [], es, L, i, h => by
  cases h
  exact .inl ⟨rfl, rfl, fun r' a' n' c' A' h => ⟨_, by simpa [ms] using MapR.cons (k := k) h .nil, by simp⟩⟩
 | x :: l, es, L, i, h => by
  generalize hl : ((x :: l).map fun e => (e.key, e.val)) = hs0 at h
  cases h with
  | nil => simp at hl
  | @cons k1 r es a n cap hs A B h1 h2 =>
   simp only [List.map_cons, List.cons.injEq, Prod.mk.injEq] at hl
   obtain ⟨⟨hk, hv⟩, rfl⟩ := hl
   by_cases e1 : k = k1
   ·subst e1
    right
    refine ⟨0, x, a, n, cap, A, B, ?_, rfl, hk, by simpa [mg] using h1, .refl _, fun r' a' n' c' A' h => ⟨A' ++ B, ?_, .refl _⟩⟩
    ·unfold Instr.findNow; rw [hk, kv_now, qu rfl]; simp [hv]
    ·simp only [ms, if_pos, List.map_cons, List.set_cons_zero]
     exact .cons h h2
   ·have hf : Instr.findNow (.int .i64) (kv k) (x :: l) i = Instr.findNow (.int .i64) (kv k) l (i + 1) := by
     rw [Instr.findNow, hk, kv_now, qv e1]
    have hg : mg k ((k1, r) :: es) = mg k es := by simp [mg, e1]
    have hms : ∀ r', ms k r' ((k1, r) :: es) = (k1, r) :: ms k r' es := fun r' => by simp [ms, e1]
    rw [hf, hg]
    rcases MapR.get (k := k) (i + 1) h2 with ⟨g1, g2, g3⟩ | ⟨j, e0, a1, n1, c1, A1, B1, g1, g2, g3, g4, g5, g6⟩
    ·left
     refine ⟨g1, g2, fun r' a' n' c' A' h => ?_⟩
     obtain ⟨L', q1, q2⟩ := g3 r' a' n' c' A' h
     refine ⟨A ++ L', ?_, ?_⟩
     ·rw [hms, List.cons_append]; exact .cons h1 q1
     ·refine (q2.append_left A).trans ?_
      rw [← ql, ← ql]
      exact List.perm_append_comm.append_right B
    ·right
     refine ⟨j + 1, e0, a1, n1, c1, A1, A ++ B1, by rw [g1]; congr 3; omega, by simpa using g2, g3, g4, ?_, fun r' a' n' c' A' h => ?_⟩
     ·refine (g5.append_left A).trans ?_
      rw [← ql, ← ql]
      exact List.perm_append_comm.append_right B1
     ·obtain ⟨L', q1, q2⟩ := g6 r' a' n' c' A' h
      refine ⟨A ++ L', ?_, ?_⟩
      ·rw [hms, List.set_cons_succ]; exact .cons h1 q1
      ·refine (q2.append_left A).trans ?_
       rw [← ql, ← ql]
       exact List.perm_append_comm.append_right B1
def mnestO (c : Enc α) (e : TypeId) (b : Nat) (es : List (Int × List α)) : AObj := .heap fun L => ∃ arr clock B, L = (b, .map arr clock) :: B ∧ MapR c e es (ents arr) B
section
variable {E : World} {P : Program} {ops : Array Oper} {K : AEnv → OL → Prop} {env : AEnv} {O O' O'' : OL} {rest : List Oper} {n : Nat}
variable {d ty : Nat} {pos : String} {af : Array Edge} {x y z : Operand} {t u e T kt : TypeId} {b : Nat}
theorem AOps.makeMapN (c : Enc α) (e : TypeId) (k : ∀ b, AOps P E ops K rest (aupd env d (mref b)) ((0, mnestO c e b []) :: O)) : AOps P E ops K (Oper.mk (some d) (.makeMap t none) ty pos af none :: rest) env O := fun I F ρ w h1 ⟨ht, L, hL, hS⟩ => by
 refine qi rfl ?_
 unfold OpW
 have : (execOp (Go.Proofs.YtjnpcfpecilejaaGreatDoor.ev ρ) (Oper.mk (some d) (.makeMap t none) ty pos af none)).run P w = .ok (.value (.map (some w.heap.size))) (w.alloc (.map #[] 0)) := by
  simp only [execOp, Option.map_none]
  rw [Sem.run_bind, run_makeMap_plain]; rfl
 rw [this]
 exact k w.heap.size I F _ _ (h1.upd d rfl) ⟨ht, (w.heap.size, .map #[] 0) :: L, ⟨[_], L, rfl, ⟨#[], 0, [], rfl, .nil⟩, hL⟩, hS.alloc _⟩
def FroM (c : Enc α) (I : G) : List (Int × List α) → List (Value × Value) → Prop
 | [], hs => hs = []
 | (k, r) :: es, hs => ∃ v hs', hs = (kv k, v) :: hs' ∧ RepV I (.fro c.k (r.map c.row)) v ∧ FroM c I es hs'
theorem FroM.mono {c : Enc α} {I J : G} (h : I.le J) : ∀ {es : List (Int × List α)} {hs : List (Value × Value)}, FroM c I es hs → FroM c J es hs
 | [], _, e => e
 | (_, _) :: _, _, ⟨v, hs', e, h1, h2⟩ => ⟨v, hs', e, RepV.mono h _ _ h1, FroM.mono h h2⟩
theorem MapR.fro {c : Enc α} {I : G} {e : TypeId} {es : List (Int × List α)} {hs : List (Value × Value)} {B : List (Nat × Obj)} (h : MapR c e es hs B) (hI : ∀ x ∈ B, I.k x.1 = some x.2) : FroM c I es hs := by
 induction h with
 | nil => rfl
 | cons h1 _ ih => exact ⟨_, _, rfl, h1.fro fun x hx => hI x (List.mem_append_left _ hx), ih fun x hx => hI x (List.mem_append_right _ hx)⟩
theorem FroM.get {c : Enc α} {I : G} {k : Int} : ∀ {l : List MapEntry} {es : List (Int × List α)} (i : Nat), FroM c I es (l.map fun e => (e.key, e.val)) →
  (Instr.findNow (.int .i64) (kv k) l i = some none ∧ mg k es = []) ∨ (∃ j v, Instr.findNow (.int .i64) (kv k) l i = some (some (j, v)) ∧ RepV I (.fro c.k ((mg k es).map c.row)) v)
 | [], [], i, _ => .inl ⟨rfl, rfl⟩
 | _ :: _, [], _, h => by cases h
 | [], (_, _) :: _, _, ⟨_, _, e, _⟩ => by cases e
 | x :: l, (k1, r) :: es, i, ⟨v, hs', e, h1, h2⟩ => by
  simp only [List.map_cons, List.cons.injEq, Prod.mk.injEq] at e
  obtain ⟨⟨hk, hv⟩, rfl⟩ := e
  by_cases e1 : k = k1
  ·subst e1
   right
   refine ⟨i, v, ?_, by simpa [mg] using h1⟩
   unfold Instr.findNow; rw [hk, kv_now, qu rfl]; simp [hv]
  ·have hf : Instr.findNow (.int .i64) (kv k) (x :: l) i = Instr.findNow (.int .i64) (kv k) l (i + 1) := by
    rw [Instr.findNow, hk, kv_now, qv e1]
   rw [hf, show mg k ((k1, r) :: es) = mg k es by simp [mg, e1]]
   exact FroM.get (i + 1) h2
def mfroO (c : Enc α) (b : Nat) (es : List (Int × List α)) : AObj := .heapG (fun I L => ∃ arr clock, L = [(b, .map arr clock)] ∧ FroM c I es (ents arr)) fun I J L h hp => by
 obtain ⟨arr, clock, h1, h2⟩ := hp; exact ⟨arr, clock, h1, h2.mono h⟩
theorem GStep.mapKnow {c : Enc α} {m : Nat} {es : List (Int × List α)} (hO : Put O m (mnestO c e b es) (mfroO c b es) O') : GStep E env O env O' := fun I F ρ w h1 h2 => by
 obtain ⟨htop, L, hL, hS⟩ := h2
 obtain ⟨A, B, hp, ⟨arr, clock, B0, rfl, hN⟩, hback⟩ := hO.rep hL
 have hS2 : SL I.k (B0 ++ ((b, .map arr clock) :: (B ++ F))) E w := hS.perm (by
  refine List.Perm.trans ?_ ((hp.append_right F).symm)
  simp only [List.cons_append, ql]
  exact List.perm_middle)
 obtain ⟨J, g1, g2, g3⟩ := SL.freezeAllN hS2
 have hle : I.le ⟨J, I.h⟩ := ⟨g1, fun _ _ h => h⟩
 obtain ⟨L', h5, h6⟩ := hback hle (A' := [(b, .map arr clock)]) ⟨arr, clock, rfl, hN.fro fun x hx => g3 x hx⟩
 refine ⟨⟨J, I.h⟩, hle, h1.mono hle, htop, L', h5, g2.perm ?_⟩
 exact h6.append_right F
theorem Gv.lookupF {c : Enc α} {k : Int} {m : Nat} {es : List (Int × List α)} (ht : P.underlying t = some (.map kt u)) (hk : P.underlying kt = some (.int .i64)) (hz : ∀ w, (zeroValue u).run P w = .ok (.slice none 0 0) w) (hx : aev env x = mref b) (hy : aev env y = .int .i64 k)
  (hO : Has O m (mfroO c b es)) : Gv P env O (Oper.mk (some d) (.lookup t x y false) ty pos af none) (.fro c.k ((mg k es).map c.row)) := fun I L E ρ h1 hL => by
 obtain ⟨O', hO⟩ := hO
 obtain ⟨A, B, hp, ⟨arr, clock, rfl, hM⟩, _⟩ := hO.rep hL
 have hin0 : (b, Obj.map arr clock) ∈ L := hp.mem_iff.2 (by simp)
 have hx := evRaw h1 hx
 have hy := evI h1 hy
 rcases FroM.get (k := k) 0 hM with ⟨g1, g2⟩ | ⟨j, v, g1, g2⟩
 ·refine ⟨.slice none 0 0, by rw [g2]; exact ⟨none, 0, 0, rfl, rfl, Nat.le_refl _, fun _ => rfl, trivial⟩, fun w J L' hl hS hin => ?_⟩
  have hb := hS.own _ (hin _ hin0)
  simp only at hb
  have hc : (Instr.checkKey arr.isEmpty 10000 kt (kv k)).run P w = .ok () w := MapKept.run_checkKey (k := kv k) hk (kv_key k) _ 9999
  simp only [kv] at hc g1
  simp [execOp, Instr.lookup, run_underlying ht, hx, hy, MapKept.run_getObj_map hb, hc, MapKept.run_findKey hk g1, hz, Result.andThen]
 ·refine ⟨v, g2, fun w J L' hl hS hin => ?_⟩
  have hb := hS.own _ (hin _ hin0)
  simp only at hb
  have hc : (Instr.checkKey arr.isEmpty 10000 kt (kv k)).run P w = .ok () w := MapKept.run_checkKey (k := kv k) hk (kv_key k) _ 9999
  simp only [kv] at hc g1
  simp [execOp, Instr.lookup, run_underlying ht, hx, hy, MapKept.run_getObj_map hb, hc, MapKept.run_findKey hk g1, Result.andThen]
end
end Go.Proofs.YtjnpcfpecilejaaGreatDoor
namespace Go.Proofs.YtjnpcfpecilejaaGreatDoor
open Go.Proofs.Tryz
def ag (k : Int) : List (Int × AV) → Option AV
 | [] => none
 | (k', x) :: es => if k = k' then some x else ag k es
def am (k : Int) (x : AV) : List (Int × AV) → List (Int × AV)
 | [] => [(k, x)]
 | (k', x') :: es => if k = k' then (k, x) :: es else (k', x') :: am k x es
theorem ag_am (k k' : Int) (x : AV) : ∀ es : List (Int × AV), ag k (am k' x es) = if k = k' then some x else ag k es
 | [] => by simp only [am, ag]
 | (q, y) :: es => by
  simp only [am]
  by_cases h : k' = q
  ·subst h
   rw [if_pos rfl]
   simp only [ag]
   by_cases h2 : k = k'
   ·rw [if_pos h2, if_pos h2]
   ·rw [if_neg h2, if_neg h2, if_neg h2]
  ·rw [if_neg h]
   simp only [ag]
   by_cases h2 : k = q
   ·rw [if_pos h2, if_pos h2, if_neg (fun e => h (by rw [← e, h2]))]
   ·rw [if_neg h2, if_neg h2]; exact ag_am k k' x es
def EntR (I : G) : List (Int × AV) → List (Value × Value) → Prop
 | [], hs => hs = []
 | (k, x) :: es, hs => ∃ v hs', hs = (kv k, v) :: hs' ∧ RepV I x v ∧ EntR I es hs'
theorem EntR.mono {I J : G} (h : I.le J) : ∀ {es : List (Int × AV)} {hs : List (Value × Value)}, EntR I es hs → EntR J es hs
 | [], _, e => e
 | (_, _) :: _, _, ⟨v, hs', e, h1, h2⟩ => ⟨v, hs', e, RepV.mono h _ _ h1, EntR.mono h h2⟩
theorem EntR.get {I : G} {k : Int} : ∀ {l : List MapEntry} {es : List (Int × AV)} (i : Nat), EntR I es (l.map fun e => (e.key, e.val)) →
  (Instr.findNow (.int .i64) (kv k) l i = some none ∧ ag k es = none ∧ ∀ y u, RepV I y u → EntR I (am k y es) ((l.map fun e => (e.key, e.val)) ++ [(kv k, u)])) ∨
  (∃ j e0 v x, Instr.findNow (.int .i64) (kv k) l i = some (some (i + j, v)) ∧ l[j]? = some e0 ∧ e0.key = kv k ∧ ag k es = some x ∧ RepV I x v ∧ ∀ y u, RepV I y u → EntR I (am k y es) ((l.map fun e => (e.key, e.val)).set j (kv k, u)))
 | [], [], i, _ => .inl ⟨rfl, rfl, fun y u h => ⟨u, [], rfl, h, rfl⟩⟩
 | _ :: _, [], _, h => by cases h
 | [], (_, _) :: _, _, ⟨_, _, e, _⟩ => by cases e
 | x :: l, (k1, r) :: es, i, ⟨v, hs', e, h1, h2⟩ => by
  simp only [List.map_cons, List.cons.injEq, Prod.mk.injEq] at e
  obtain ⟨⟨hk, hv⟩, rfl⟩ := e
  by_cases e1 : k = k1
  ·subst e1
   right
   refine ⟨0, x, v, r, ?_, rfl, hk, by simp [ag], h1, fun y u h => ?_⟩
   ·unfold Instr.findNow; rw [hk, kv_now, qu rfl]; simp [hv]
   ·simp only [am, if_pos, List.map_cons, List.set_cons_zero]
    exact ⟨u, _, rfl, h, h2⟩
  ·have hf : Instr.findNow (.int .i64) (kv k) (x :: l) i = Instr.findNow (.int .i64) (kv k) l (i + 1) := by
    rw [Instr.findNow, hk, kv_now, qv e1]
   have hg : ag k ((k1, r) :: es) = ag k es := by simp [ag, e1]
   have hms : ∀ y, am k y ((k1, r) :: es) = (k1, r) :: am k y es := fun y => by simp [am, e1]
   rw [hf, hg]
   rcases EntR.get (k := k) (i + 1) h2 with ⟨g1, g2, g3⟩ | ⟨j, e0, v1, x1, g1, g2, g3, g4, g5, g6⟩
   ·left
    refine ⟨g1, g2, fun y u h => ?_⟩
    rw [hms]
    exact ⟨v, _, by rw [List.map_cons, hk, hv]; rfl, h1, g3 y u h⟩
   ·right
    refine ⟨j + 1, e0, v1, x1, by rw [g1]; congr 3; omega, by simpa using g2, g3, g4, g5, fun y u h => ?_⟩
    rw [hms]
    exact ⟨v, _, by rw [List.map_cons, hk, hv, List.set_cons_succ], h1, g6 y u h⟩
def mapAO (b : Nat) (es : List (Int × AV)) : AObj := .heapG (fun I L => ∃ arr clock, L = [(b, .map arr clock)] ∧ EntR I es (ents arr)) fun I J L h hp => by
 obtain ⟨arr, clock, h1, h2⟩ := hp; exact ⟨arr, clock, h1, h2.mono h⟩
section
variable {E : World} {P : Program} {ops : Array Oper} {K : AEnv → OL → Prop} {env : AEnv} {O O' O'' : OL} {rest : List Oper} {n : Nat}
variable {d ty : Nat} {pos : String} {af : Array Edge} {x y z : Operand} {t u e T kt : TypeId} {b : Nat}
theorem AOps.makeMapA (k : ∀ b, AOps P E ops K rest (aupd env d (mref b)) ((0, mapAO b []) :: O)) : AOps P E ops K (Oper.mk (some d) (.makeMap t none) ty pos af none :: rest) env O := fun I F ρ w h1 ⟨ht, L, hL, hS⟩ => by
 refine qi rfl ?_
 unfold OpW
 have : (execOp (Go.Proofs.YtjnpcfpecilejaaGreatDoor.ev ρ) (Oper.mk (some d) (.makeMap t none) ty pos af none)).run P w = .ok (.value (.map (some w.heap.size))) (w.alloc (.map #[] 0)) := by
  simp only [execOp, Option.map_none]
  rw [Sem.run_bind, run_makeMap_plain]; rfl
 rw [this]
 exact k w.heap.size I F _ _ (h1.upd d rfl) ⟨ht, (w.heap.size, .map #[] 0) :: L, ⟨[_], L, rfl, ⟨#[], 0, rfl, rfl⟩, hL⟩, hS.alloc _⟩
theorem Gv.lookupA {k : Int} {m : Nat} {es : List (Int × AV)} {zx : AV} {zv : Value} {r : Option AV} (hg : ag k es = r) (ht : P.underlying t = some (.map kt u)) (hk : P.underlying kt = some (.int .i64)) (hz : ∀ w, (zeroValue u).run P w = .ok zv w) (hzr : ∀ I, RepV I zx zv) (hx : aev env x = mref b) (hy : aev env y = .int .i64 k)
  (hO : Has O m (mapAO b es)) : Gv P env O (Oper.mk (some d) (.lookup t x y true) ty pos af none) (.tup [r.getD zx, .bool r.isSome]) := fun I L E ρ h1 hL => by
 subst hg
 obtain ⟨O', hO⟩ := hO
 obtain ⟨A, B, hp, ⟨arr, clock, rfl, hM⟩, _⟩ := hO.rep hL
 have hin0 : (b, Obj.map arr clock) ∈ L := hp.mem_iff.2 (by simp)
 have hx := evRaw h1 hx
 have hy := evI h1 hy
 have hb : ∀ w J L', I.k.le J → SL J L' E w → (∀ y ∈ L, y ∈ L') → w.heap[b]? = some (Obj.map arr clock) := fun w J L' hl hS hin => by
  have := hS.own _ (hin _ hin0); simpa using this
 have hc : ∀ w, (Instr.checkKey arr.isEmpty 10000 kt (kv k)).run P w = .ok () w := fun w => MapKept.run_checkKey (k := kv k) hk (kv_key k) _ 9999
 rcases EntR.get (k := k) 0 hM with ⟨g1, g2, _⟩ | ⟨j, e0, v, x1, g1, _, _, g4, g5, _⟩
 ·rw [g2]
  refine ⟨.tuple #[zv, .bool false], ⟨[_, _], rfl, _, _, rfl, hzr I, _, _, rfl, rfl, rfl⟩, fun w J L' hl hS hin => ?_⟩
  have hb := hb w J L' hl hS hin
  have hc := hc w
  simp only [kv] at hc g1
  simp [execOp, Instr.lookup, run_underlying ht, hx, hy, MapKept.run_getObj_map hb, hc, MapKept.run_findKey hk g1, hz, Result.andThen]
 ·rw [g4]
  refine ⟨.tuple #[v, .bool true], ⟨[_, _], rfl, _, _, rfl, g5, _, _, rfl, rfl, rfl⟩, fun w J L' hl hS hin => ?_⟩
  have hb := hb w J L' hl hS hin
  have hc := hc w
  simp only [kv] at hc g1
  simp [execOp, Instr.lookup, run_underlying ht, hx, hy, MapKept.run_getObj_map hb, hc, MapKept.run_findKey hk g1, Result.andThen]
theorem Gv.lookup1A {k : Int} {m : Nat} {es : List (Int × AV)} {zx : AV} {zv : Value} {r : AV} (hg : (ag k es).getD zx = r) (ht : P.underlying t = some (.map kt u)) (hk : P.underlying kt = some (.int .i64)) (hz : ∀ w, (zeroValue u).run P w = .ok zv w) (hzr : ∀ I, RepV I zx zv) (hx : aev env x = mref b) (hy : aev env y = .int .i64 k)
  (hO : Has O m (mapAO b es)) : Gv P env O (Oper.mk (some d) (.lookup t x y false) ty pos af none) r := fun I L E ρ h1 hL => by
 subst hg
 obtain ⟨O', hO⟩ := hO
 obtain ⟨A, B, hp, ⟨arr, clock, rfl, hM⟩, _⟩ := hO.rep hL
 have hin0 : (b, Obj.map arr clock) ∈ L := hp.mem_iff.2 (by simp)
 have hx := evRaw h1 hx
 have hy := evI h1 hy
 have hb : ∀ w J L', I.k.le J → SL J L' E w → (∀ y ∈ L, y ∈ L') → w.heap[b]? = some (Obj.map arr clock) := fun w J L' hl hS hin => by
  have := hS.own _ (hin _ hin0); simpa using this
 have hc : ∀ w, (Instr.checkKey arr.isEmpty 10000 kt (kv k)).run P w = .ok () w := fun w => MapKept.run_checkKey (k := kv k) hk (kv_key k) _ 9999
 rcases EntR.get (k := k) 0 hM with ⟨g1, g2, _⟩ | ⟨j, e0, v, x1, g1, _, _, g4, g5, _⟩
 ·rw [g2]
  refine ⟨zv, hzr I, fun w J L' hl hS hin => ?_⟩
  have hb := hb w J L' hl hS hin
  have hc := hc w
  simp only [kv] at hc g1
  simp [execOp, Instr.lookup, run_underlying ht, hx, hy, MapKept.run_getObj_map hb, hc, MapKept.run_findKey hk g1, hz, Result.andThen]
 ·rw [g4]
  refine ⟨v, g5, fun w J L' hl hS hin => ?_⟩
  have hb := hb w J L' hl hS hin
  have hc := hc w
  simp only [kv] at hc g1
  simp [execOp, Instr.lookup, run_underlying ht, hx, hy, MapKept.run_getObj_map hb, hc, MapKept.run_findKey hk g1, Result.andThen]
theorem AOps.mapSetA {k : Int} {m : Nat} {v : AV} {es : List (Int × AV)} (ht : P.underlying t = some (.map kt u)) (hk : P.underlying kt = some (.int .i64)) (hx : aev env x = mref b) (hy : aev env y = .int .i64 k) (hz : aev env z = v) (hO : Put O m (mapAO b es) (mapAO b (am k v es)) O')
  (kk : AOps P E ops K rest env O') : AOps P E ops K (Oper.mk none (.mapUpdate t x y z) ty pos af none :: rest) env O := fun I F ρ w h1 ⟨htop, L, hL, hS⟩ => by
 have hx := evRaw h1 hx
 have hy := evI h1 hy
 have hz2 := h1.ev z
 rw [hz] at hz2
 obtain ⟨uu, hu⟩ : ∃ uu, Go.Proofs.YtjnpcfpecilejaaGreatDoor.ev ρ z = uu := ⟨_, rfl⟩
 rw [hu] at hz2
 obtain ⟨A, B, hp, ⟨arr, clock, rfl, he⟩, hback⟩ := hO.rep hL
 have hS2 : SL I.k ((b, .map arr clock) :: (B ++ F)) E w := hS.perm ((hp.append_right F).symm)
 have hb := hS2.own _ (.head _)
 simp only at hb
 have hc : (Instr.checkKey false 10000 kt (kv k)).run P w = .ok () w := MapKept.run_checkKey (k := kv k) hk (kv_key k) false 9999
 have fin : ∀ (arr' : Array MapEntry) (clock' : Nat), EntR I (am k v es) (ents arr') →
   (execOp (Go.Proofs.YtjnpcfpecilejaaGreatDoor.ev ρ) (Oper.mk none (.mapUpdate t x y z) ty pos af none)).run P w = .ok .skip { w with heap := w.heap.setIfInBounds b (.map arr' clock') } → Ops P ops (postK I F E K) (Oper.mk none (.mapUpdate t x y z) ty pos af none :: rest) ρ w := fun arr' clock' he' hrun => by
  refine qi rfl ?_
  unfold OpW
  rw [hrun]
  obtain ⟨L', h7, h8⟩ := hback (G.le.refl I) (A' := [(b, .map arr' clock')]) ⟨arr', clock', rfl, he'⟩
  have hh := MapKept.heap_set (o' := .map arr' clock') hb
  have hS3 : SL I.k ((b, .map arr' clock') :: (B ++ F)) E { w with heap := w.heap.setIfInBounds b (.map arr' clock') } := hS2.turn rfl rfl rfl hh.1 hh.2
  exact kk I F ρ _ h1 ⟨htop, L', h7, hS3.perm (h8.append_right F)⟩
 rcases EntR.get (k := k) 0 he with ⟨g1, _, g3⟩ | ⟨j, e0, v1, x1, g1, g2, g3, _, _, g6⟩
 ·refine fin (arr.push { key := kv k, val := uu, born := clock }) (clock + 1) ?_ ?_
  ·have := g3 v uu hz2
   unfold ents; simpa using this
  ·simp only [kv] at hc g1
   simp [execOp, hx, hy, hu, Instr.mapUpdate, run_underlying ht, MapKept.run_getObj_map hb, hc, MapKept.run_findKey hk g1, MapKept.run_setObj_map _ hb, Result.andThen, kv]
 ·rw [Nat.zero_add] at g1
  have hj' : arr[j]? = some e0 := by rw [← Array.getElem?_toList]; exact g2
  refine fin (arr.modify j fun e => { e with key := kv k, val := uu }) clock ?_ ?_
  ·have hjl : j < arr.toList.length := (List.getElem?_eq_some_iff.1 g2).1
   have : (arr.modify j fun e => { e with key := kv k, val := uu }).toList = arr.toList.set j { e0 with key := kv k, val := uu } := by
    apply List.ext_getElem?
    intro q
    rw [Array.getElem?_toList, Array.getElem?_modify]
    by_cases hq : j = q
    ·subst hq
     rw [if_pos rfl, hj', List.getElem?_set_self hjl]; rfl
    ·rw [if_neg hq, List.getElem?_set_ne hq, Array.getElem?_toList]
   unfold ents
   rw [this, List.map_set]; exact g6 v uu hz2
  ·have hkeep : (Instr.keyThatStays (kv k) (kv k)).run P w = .ok (kv k) w := MapKept.run_keyThatStays (kv_key k)
   simp only [kv] at hc g1 g3 hkeep
   simp [execOp, hx, hy, hu, Instr.mapUpdate, run_underlying ht, MapKept.run_getObj_map hb, hc, MapKept.run_findKey hk g1, MapKept.run_setObj_map _ hb, Result.andThen, hj', g3, hkeep, kv]
end
end Go.Proofs.YtjnpcfpecilejaaGreatDoor
namespace Go.Proofs.YtjnpcfpecilejaaGreatDoor
open Go.Proofs.Tryz
abbrev Bnd := Bool × Int
def encBd (b : Bnd) : List AV := [.bool b.1, .int .i64 b.2]
def encMk (b : Bnd) : List AV := [.int .i64 (if b.1 = true then 1 else 2), .int .i64 (if b.1 = true then b.2 else 0)]
def bd (d : List Bnd) (v : Int) : Bnd := (d[v.toNat]?).getD (false, 0)
theorem bd_get {d : List Bnd} {v : Int} (h0 : 0 ≤ v) (h : v < d.length) : d[v.toNat]? = some (bd d v) := by
 unfold bd; rw [qj (by omega)]; rfl
def covB (up : Bool) (a b : Bnd) : Bool := b.1 && (if up = true then decide (b.2 ≤ a.2) else decide (a.2 ≤ b.2))
def sumBd (up : Bool) (a : Bnd) (n : Int) : Bnd := if fit3 0 a.2 n then (a.1, a.2 + n) else (a.1 && (decide (0 < n) != up), near3 0 a.2 n)
def covPhi (up : Bool) (d : List Bnd) (v : Int) (p : PPhi) : Bool := p.args.all fun a => covB up (bd d v) (bd d a)
def covE (up : Bool) (d : List Bnd) (v : Int) (e : Ejk) : Bool := covB up (bd d v) (sumBd up (bd d e.1) e.2.2)
def intoE (es : List Ejk) (v : Int) : List Ejk := es.filter fun e => decide (e.2.1 = v)
def nodeB (up : Bool) (s n : Int) (es : List Ejk) (ph : Int → Option PPhi) (shut : Int → Bool) (low : Bnd) (d : List Bnd) (v : Int) : Bool :=
 if v = s then (bd d v).1 && covB up (bd d v) (true, 0)
 else if (bd d v).1 = false then true
 else if v = n then covB up (bd d v) low
 else match ph v with
  | some p => !shut v && covPhi up d v p
  | none => (intoE es v).any (covE up d v)
def soundB (up : Bool) (s n : Int) (es : List Ejk) (ph : Int → Option PPhi) (shut : Int → Bool) (low : Bnd) (d : List Bnd) : Bool := (List.range d.length).all fun (v : Nat) => nodeB up s n es ph shut low d v
def phiF (f : PFunc) (v : Int) : Option PPhi := if 0 ≤ (makerT f v).1 ∧ (makerT f v).2 < 0 then (f.blocks[(makerT f v).1.toNat]?).bind fun b => b.phis.find? fun p => decide (p.dst = v) else none
def shutF (f : PFunc) (s v : Int) : Bool := decide (0 ≤ (makerT f s).1) && (decide ((makerT f s).1 = (makerT f v).1) || !domB (EndsOf f) f.blocks.length (makerT f s).1 (makerT f v).1)
def lowF (l : List Rng) (s : Int) : Bnd := if (rMeet (lv l s) (rType 2)).2 < (rMeet (lv l s) (rType 2)).1 then (false, 0) else (true, -(rMeet (lv l s) (rType 2)).1)
def phsTo (f : PFunc) (k : Nat) : List (Int × PPhi) := (f.blocks.take k).zipIdx.flatMap fun b => b.1.phis.map fun p => ((b.2 : Int), p)
theorem phsTo_succ {f : PFunc} {k : Nat} (h : k < f.blocks.length) : phsTo f (k + 1) = phsTo f k ++ f.blocks[k].phis.map fun p => ((k : Int), p) := by
 unfold phsTo; rw [zipTake h, List.flatMap_append]; simp
theorem mem_phsTo {f : PFunc} {q : Int × PPhi} : q ∈ phsTo f f.blocks.length ↔ ∃ (i : Nat) (b : PBlock), f.blocks[i]? = some b ∧ q.2 ∈ b.phis ∧ q.1 = (i : Int) := by
 unfold phsTo
 rw [qo, List.mem_flatMap]
 constructor
 ·rintro ⟨⟨b, i⟩, hb, h⟩
  obtain ⟨p, hp, rfl⟩ := List.mem_map.1 h
  have := List.mem_zipIdx_iff_getElem?.1 hb
  exact ⟨i, b, by simpa using this, hp, rfl⟩
 ·rintro ⟨i, b, hb, hp, e⟩
  exact ⟨(b, i), List.mem_zipIdx_iff_getElem?.2 (by simpa using hb), List.mem_map.2 ⟨q.2, hp, by rw [← e]⟩⟩
def mapsF {α : Type} (key : α → Int) (val : α → AV) (xs : List α) : List (Int × AV) := xs.foldl (fun es x => am (key x) (val x) es) []
theorem mapsF_snoc {α : Type} (key : α → Int) (val : α → AV) (xs : List α) (x : α) : mapsF key val (xs ++ [x]) = am (key x) (val x) (mapsF key val xs) := by unfold mapsF; rw [List.foldl_append]; rfl
theorem ag_mapsF {α : Type} (key : α → Int) (val : α → AV) (v : Int) : ∀ (n : Nat) (xs : List α), xs.length = n → (∃ x ∈ xs, key x = v ∧ ag v (mapsF key val xs) = some (val x)) ∨ ((∀ x ∈ xs, key x ≠ v) ∧ ag v (mapsF key val xs) = none)
 | 0, xs, h => by
  obtain rfl : xs = [] := List.eq_nil_of_length_eq_zero h
  exact .inr ⟨fun _ h => (by cases h), rfl⟩
 | n + 1, xs, h => by
  obtain ⟨ys, x, rfl⟩ : ∃ ys x, xs = ys ++ [x] := ⟨xs.dropLast, xs.getLast (by intro e; rw [e] at h; simp at h), (List.dropLast_concat_getLast _).symm⟩
  have hl : ys.length = n := by simp at h; omega
  rw [mapsF_snoc, ag_am]
  by_cases c : v = key x
  ·rw [if_pos c]; exact .inl ⟨x, by simp, c.symm, rfl⟩
  ·rw [if_neg c]
   rcases ag_mapsF key val v n ys hl with ⟨y, hy, h1, h2⟩ | ⟨h1, h2⟩
   ·exact .inl ⟨y, List.mem_append_left _ hy, h1, h2⟩
   ·refine .inr ⟨fun y hy => ?_, h2⟩
    rcases List.mem_append.1 hy with hy | hy
    ·exact h1 y hy
    ·rw [List.mem_singleton.1 hy]; exact fun e => c e.symm
theorem phi_made {f : PFunc} {v : Int} (hl : (makings f v).length ≤ 1) {i : Nat} {b : PBlock} (h : f.blocks[i]? = some b) {p : PPhi} (hp : p ∈ b.phis) (hd : p.dst = v) : makerT f v = ((i : Int), -1) ∧ phiF f v = some p := by
 have hm : makerT f v = ((i : Int), -1) := maker_eq hl (mem_makings.2 ⟨i, b, h, mem_mkBlk.2 (.inl ⟨p, hp, hd, rfl⟩)⟩)
 refine ⟨hm, ?_⟩
 unfold phiF
 rw [hm, if_pos ⟨by dsimp only; omega, by dsimp only; omega⟩]
 show (f.blocks[((i : Int)).toNat]?).bind _ = _
 rw [show ((i : Int)).toNat = i from rfl, h]
 exact phi_find hl h hp hd
theorem phi_got {f : PFunc} {v : Int} {p : PPhi} (h : phiF f v = some p) : ∃ (i : Nat) (b : PBlock), f.blocks[i]? = some b ∧ p ∈ b.phis ∧ p.dst = v ∧ (makerT f v).1 = (i : Int) ∧ (makerT f v).2 < 0 := by
 unfold phiF at h
 split at h
 ·rename_i c
  obtain ⟨b, hb, h2⟩ := Option.bind_eq_some_iff.1 h
  have h3 := List.find?_some h2
  exact ⟨(makerT f v).1.toNat, b, hb, List.mem_of_find?_eq_some h2, by simpa using h3, by omega, c.2⟩
 ·cases h
def phMap (f : PFunc) (k : Nat) : List (Int × AV) := mapsF (fun q : Int × PPhi => q.2.dst) (fun q => .agg (encPhi q.2)) (phsTo f k)
theorem phMap_ag {f : PFunc} {v : Int} (hl : (makings f v).length ≤ 1) : ag v (phMap f f.blocks.length) = (phiF f v).map fun p => .agg (encPhi p) := by
 unfold phMap
 rcases ag_mapsF (fun q : Int × PPhi => q.2.dst) (fun q => AV.agg (encPhi q.2)) v _ (phsTo f f.blocks.length) rfl with ⟨q, hq, h1, h2⟩ | ⟨h1, h2⟩
 ·rw [h2]
  obtain ⟨i, b, hb, hp, _⟩ := mem_phsTo.1 hq
  rw [(phi_made hl hb hp h1).2]; rfl
 ·rw [h2]
  cases h : phiF f v with
  | none => rfl
  | some p =>
   obtain ⟨i, b, hb, hp, hd, _, _⟩ := phi_got h
   exact absurd hd (h1 ((i : Int), p) (mem_phsTo.2 ⟨i, b, hb, hp, rfl⟩))
def shutQ (f : PFunc) (a : Int) (q : Int × PPhi) : Bool := decide (a = q.1) || !domB (EndsOf f) f.blocks.length a q.1
def shMap (f : PFunc) (a : Int) (xs : List (Int × PPhi)) : List (Int × AV) := mapsF (fun q : Int × PPhi => q.2.dst) (fun _ => .int .i64 1) (xs.filter (shutQ f a))
theorem shMap_snoc (f : PFunc) (a : Int) (xs : List (Int × PPhi)) (q : Int × PPhi) : shMap f a (xs ++ [q]) = if shutQ f a q = true then am q.2.dst (.int .i64 1) (shMap f a xs) else shMap f a xs := by
 unfold shMap
 rw [List.filter_append]
 by_cases c : shutQ f a q = true
 ·rw [if_pos c, List.filter_cons_of_pos c, List.filter_nil, mapsF_snoc]
 ·rw [if_neg c, List.filter_cons_of_neg c, List.filter_nil, qt]
theorem shMap_ag {f : PFunc} {v a : Int} (hl : (makings f v).length ≤ 1) {p : PPhi} (hp : phiF f v = some p) : ((ag v (shMap f a (phsTo f f.blocks.length))).getD (.int .i64 0)) = .int .i64 (if shutQ f a ((makerT f v).1, p) = true then 1 else 0) := by
 obtain ⟨i, b, hb, hpm, hd, hmi, _⟩ := phi_got hp
 unfold shMap
 rcases ag_mapsF (fun q : Int × PPhi => q.2.dst) (fun _ => AV.int .i64 1) v _ ((phsTo f f.blocks.length).filter (shutQ f a)) rfl with ⟨q, hq, h1, h2⟩ | ⟨h1, h2⟩
 ·rw [h2]
  obtain ⟨hq1, hq2⟩ := List.mem_filter.1 hq
  obtain ⟨j, c, hc, hqp, hqi⟩ := mem_phsTo.1 hq1
  have h3 := phi_made hl hc hqp h1
  have : q.1 = (makerT f v).1 := by rw [h3.1, hqi]
  rw [if_pos (by unfold shutQ at hq2 ⊢; dsimp only; rw [← this]; exact hq2)]; rfl
 ·rw [h2]
  have hno : ¬ shutQ f a ((makerT f v).1, p) = true := fun h => h1 ((makerT f v).1, p) (List.mem_filter.2 ⟨mem_phsTo.2 ⟨i, b, hb, hpm, hmi⟩, h⟩) hd
  rw [if_neg hno]; rfl
theorem shut_eq {f : PFunc} {s v : Int} {p : PPhi} : shutF f s v = (decide (0 ≤ (makerT f s).1) && shutQ f (makerT f s).1 ((makerT f v).1, p)) := rfl
def beyB (up : Bool) (a b : Int) : Bool := if up = true then decide (b < a) else decide (a < b)
def sumR (up : Bool) (a n : Int) : Int × Bool := if fit3 0 a n then (a + n, true) else if up = true ∧ n < 0 then (m64, true) else if up = false ∧ 0 < n then (M64, true) else (0, false)
theorem cov_bey (up : Bool) (a b : Bnd) : covB up a b = (b.1 && !beyB up b.2 a.2) := by
 unfold covB beyB
 cases up
 ·simp only [Bool.false_eq_true, if_false]
  congr 1
  rw [qs]; simp
 ·simp only [if_true]
  congr 1
  rw [qs]; simp
theorem near0 (x y : Int) : near3 0 x y = if x < 0 then m64 else M64 := by unfold near3; simp
theorem sum_ref {up : Bool} {a n : Int} (ha : is64 a) (hn : is64 n) (c : Bnd) : covB up c (sumBd up (true, a) n) = ((sumR up a n).2 && !beyB up (sumR up a n).1 c.2) := by
 rw [cov_bey]
 unfold sumBd sumR
 dsimp only
 by_cases h : fit3 0 a n
 ·rw [if_pos h, if_pos h]
 ·rw [if_neg h, if_neg h, near0]
  have h0 : ¬ is64 (a + n) := h
  unfold is64 at h0 ha hn
  cases up
  ·by_cases c0 : 0 < n
   ·have c1 : ¬ a < 0 := by omega
    simp [c0, c1]
   ·simp [c0]
  ·by_cases c0 : n < 0
   ·have c1 : a < 0 := by omega
    have c2 : ¬ 0 < n := by omega
    simp [c0, c1, c2]
   ·have c2 : 0 < n := by omega
    simp [c0, c2]
def rowsE (es : List Ejk) (m : Nat) : List (List Ejk) := (List.range m).map fun (v : Nat) => intoE es v
theorem rowsE_len (es : List Ejk) (m : Nat) : (rowsE es m).length = m := by simp [rowsE]
theorem rowsE_get {es : List Ejk} {m v : Nat} (h : v < m) : (rowsE es m)[v]? = some (intoE es v) := by unfold rowsE; rw [qr, List.getElem?_range h]; rfl
theorem rowsE_nil (m : Nat) : List.replicate m [] = rowsE [] m := by
 refine List.ext_getElem? fun k=>?_
 by_cases h : k < m
 ·rw [rowsE_get h, List.getElem?_replicate, if_pos h]; rfl
 ·rw [List.getElem?_eq_none (by simp; omega), List.getElem?_eq_none (by rw [rowsE_len]; omega)]
theorem rowsE_push {es : List Ejk} {m : Nat} {e : Ejk} {v : Nat} (hv : e.2.1 = (v : Int)) : (rowsE es m).set v (intoE es v ++ [e]) = rowsE (es ++ [e]) m := by
 refine List.ext_getElem? fun k=>?_
 by_cases h : k < m
 ·rw [rowsE_get h]
  by_cases c : k = v
  ·subst c
   rw [List.getElem?_set_self (by rw [rowsE_len]; exact h)]
   unfold intoE
   rw [List.filter_append, List.filter_cons_of_pos (by rw [hv]; simp), List.filter_nil]
  ·rw [List.getElem?_set_ne (fun e => c e.symm), rowsE_get h]
   unfold intoE
   rw [List.filter_append, List.filter_cons_of_neg (by rw [hv]; simp; omega), List.filter_nil, qt]
 ·rw [List.getElem?_eq_none (by rw [List.length_set, rowsE_len]; omega), List.getElem?_eq_none (by rw [rowsE_len]; omega)]
theorem intoE_len (es : List Ejk) (v : Int) : (intoE es v).length ≤ es.length := List.length_filter_le _ _
def phsIn (i : Nat) (ps : List PPhi) : List (Int × PPhi) := ps.map fun p => ((i : Int), p)
theorem phsIn_succ {i : Nat} {ps : List PPhi} {j : Nat} (h : j < ps.length) : phsIn i (ps.take (j + 1)) = phsIn i (ps.take j) ++ [((i : Int), ps[j])] := by
 unfold phsIn; rw [qk h, List.map_append]; rfl
def phMapL (xs : List (Int × PPhi)) : List (Int × AV) := mapsF (fun q : Int × PPhi => q.2.dst) (fun q => .agg (encPhi q.2)) xs
theorem phMapL_snoc (xs : List (Int × PPhi)) (q : Int × PPhi) : phMapL (xs ++ [q]) = am q.2.dst (.agg (encPhi q.2)) (phMapL xs) := mapsF_snoc _ _ _ _
end Go.Proofs.YtjnpcfpecilejaaGreatDoor
namespace Go.Proofs.YtjnpcfpecilejaaGreatDoor
open Go.Proofs.Tryz
open Go.Proofs
variable {E : World}
set_option maxRecDepth 20000
def okL {α : Type} (l : List α) : Prop := l.length ≤ 140737488355328
def okPhi (p : PPhi) : Prop := okL p.args ∧ okL p.from_
def okBlk (b : PBlock) : Prop := okL b.phis ∧ okL b.insts ∧ (∀ p ∈ b.phis, okPhi p) ∧ (∀ x ∈ b.insts, okL x.args)
def okFunc (f : PFunc) : Prop := okL f.vars ∧ okL f.params ∧ okL f.blocks ∧ ∀ b ∈ f.blocks, okBlk b
theorem okL.lt {α : Type} {l : List α} (h : okL l) : l.length ≤ 140737488355328 := h
theorem jb {x y : Bool} (h : x = y) : AV.bool x = AV.bool y := congrArg AV.bool h
theorem impNil (k : Nat) : ∀ I v, RepV I (.raw (.slice none 0 0)) v → RepV I (.fro k []) v := fun _ _ h => ⟨none, 0, 0, h, rfl, Nat.le_refl _, fun _ => rfl, trivial⟩
theorem eq_arr (a b c d : Int) (w : World) (m : Nat) : (Op.equalIn (m + 2) 62 (.agg [.int .i64 a, .int .i64 b].toArray) (.agg [.int .i64 c, .int .i64 d].toArray)).run prog w = .ok (decide (a = c ∧ b = d)) w := by
 rw [Op.equalIn]
 simp only [Sem.run_bind, run_underlying underlying62, Result.andThen_ok]
 simp only [Std.Legacy.Range.forIn_eq_forIn_range', Std.Legacy.Range.size, Nat.sub_zero, Nat.add_sub_cancel, Nat.div_one, List.range'_succ, List.range'_zero, List.forIn_cons, List.forIn_nil]
 simp [part, isAgg3, sizeOf3, run_equalIn_int, underlying3]
 by_cases h1 : a = c <;> by_cases h2 : b = d <;> simp [h1, h2]
theorem equalI_spec (xs ys : List Int) (hl : okL xs) : AFun prog E 100 [.fro 1 (xs.map encI), .fro 1 (ys.map encI)] (.bool (decide (xs = ys))) := by
 have hl := hl.lt
 refine zo func100 rfl (by decide) rfl<|zSr<|z2 (zAb rfl)<|z6<|za<|zSr<|z2 (zMf rfl)<|z2 (zz underlying23 rfl)<|z2 (zMf rfl)<|z2 (zz underlying23 rfl)<|z2 (yi rfl rfl)<|z6<|zr rfl (fun c0=>?_) (fun c0=>?_)
 ·have h : ¬ xs = ys := fun e => by subst e; simp at c0
  refine zSr<|z2 (zAb rfl)<|z6<|zf<|zj (x := .bool _) rfl ?_
  rw [qv h]
 ·have hl2 : xs.length = ys.length := by simp at c0; omega
  refine zc<|za<|zSr<|z2 (zMf rfl)<|z2 (zz underlying23 rfl)<|z2 (zMi rfl)<|z6<|zh<|y6 (γ := Nat) [0, 1, 12] (fun k => [(13, .int .i64 k)]) (fun k => []) (fun k => k ≤ xs.length ∧ xs.take k = ys.take k) (fun k => xs.length - k) 0 zR1 zLe (⟨qm _, rfl⟩) ?_
  rintro k ⟨hk, he⟩
  refine zSr<|z2 (y8 rfl rfl)<|z6<|za<|zp rfl (fun ck=>?_) (fun ck=>?_)
  ·have hk2 : k < xs.length := by omega
   have hk3 : k < ys.length := by omega
   refine zc<|za<|zh<|zSr<|z2 (zMi rfl)<|z2 (zAi rfl)<|z6<|za<|y1 (fun j => false) (by kernel_rfl) rfl (zn (.rest _))<|zTk 0 rfl (zMf rfl)<|zTk 1 rfl (zMi rfl)<|zTk 2 rfl (q8 underlying23 sizeOf3 rfl rfl rfl (qj (by omega)))<|zTk 3 rfl (zLi isAgg3 rfl)<|zTk 4 rfl (zMf rfl)<|zTk 5 rfl (zMi rfl)<|zTk 6 rfl (q8 underlying23 sizeOf3 rfl rfl rfl (qj (by omega)))<|zTk 7 rfl (zLi isAgg3 rfl)<|zTk 8 rfl (yi rfl rfl)<|zDn<|zr rfl (fun cd=>?_) (fun cd=>?_)
   ·refine zSr<|z2 (zAb rfl)<|z6<|zf<|zj (x := .bool _) rfl ?_
    rw [qv (ne_at hk2 hk3 (by simpa using cd))]
   ·refine zc<|zRg<|z2 (zAd rfl rfl)<|z2 (zMi rfl)<|z6 ?_
    exact ⟨k + 1, zR3, zR1, zLe, ⟨hk2, take_push hk2 hk3 he (by simpa using cd)⟩, by omega⟩
  ·refine y4<|zSr<|z2 (zAb rfl)<|z6<|zf<|zj (x := .bool _) rfl ?_
   rw [qu (take_done hl2 (by omega) he)]
end Go.Proofs.YtjnpcfpecilejaaGreatDoor
namespace Go.Proofs.YtjnpcfpecilejaaGreatDoor
open Go.Proofs.Tryz
open Go.Proofs
variable {E : World}
set_option maxRecDepth 20000
theorem indexFuncJ_spec {p : Int → Bool} {fn : FuncId} {c : List AV} (xs : List Int) (hl : xs.length ≤ 281474976710656) (hp : ∀ x ∈ xs, AFun prog E fn ([.int .i64 x] ++ c) (.bool (p x))) :
  AFun prog E 148 [.fro 1 (xs.map encI), .fn fn [] c] (.int .i64 (firstI p xs 0)) := by
 refine zo func148 rfl (by decide) rfl<|zSr<|z2 (zAi rfl)<|z6<|za<|zSr<|z2 (zMf rfl)<|z2 (zz underlying23 rfl)<|z2 (zMi rfl)<|z6<|zh<|y6 (γ := Nat) [0, 1, 7] (fun k => [(8, .int .i64 k)]) (fun k => []) (fun k => k ≤ xs.length ∧ (xs.take k).all (fun x => !p x)) (fun k => xs.length - k) 0 zR1 zLe (⟨qm _, rfl⟩) ?_
 rintro k ⟨hk, hall⟩
 refine zSr<|z2 (y8 rfl rfl)<|z6<|za<|zp rfl (fun ck=>?_) (fun ck=>?_)
 ·have hk2 : k < xs.length := by omega
  refine zc<|za<|zh<|zSr<|z2 (zMi rfl)<|z2 (zAi rfl)<|z6<|zSr<|z2 (yj (v := .fn _ _ _) rfl)<|z2 (zMf rfl)<|z2 (zMi rfl)<|z2 (q8 underlying23 sizeOf3 rfl rfl rfl (qj (by omega)))<|z2 (zLi isAgg3 rfl)<|AOps.callVP rfl (hp _ (qn hk2)) rfl<|z6<|zr rfl (fun cp=>?_) (fun cp=>?_)
  ·refine zSr<|z2 (zMi rfl)<|z2 (zAi rfl)<|z6<|zf<|zj (x := .int _ _) rfl ?_
   rw [firstI_drop p xs k hk hall, List.drop_eq_getElem_cons hk2, firstI, if_pos cp]
  ·refine zc<|zRg<|z2 (zAd rfl rfl)<|z2 (zMi rfl)<|z6 ?_
   exact ⟨k + 1, zR3, zR1, zLe, ⟨hk2, by rw [qk hk2, List.all_append, hall]; simp [cp]⟩, by omega⟩
 ·have hkn : k = xs.length := by omega
  refine y4<|zSr<|z2 (zAi rfl)<|z6<|zf<|zj (x := .int _ _) rfl ?_
  rw [firstI_drop p xs k hk hall, hkn, List.drop_length, firstI]
theorem containsFuncJ_spec {p : Int → Bool} {fn : FuncId} {c : List AV} (xs : List Int) (hl : xs.length ≤ 281474976710656) (hp : ∀ x ∈ xs, AFun prog E fn ([.int .i64 x] ++ c) (.bool (p x))) :
  AFun prog E 98 [.fro 1 (xs.map encI), .fn fn [] c] (.bool (xs.any p)) := by
 refine zo func98 rfl (by decide) rfl<|zSr<|z2 (zAb rfl)<|z6<|zSr<|z2 (zMf rfl)<|z2 (yj (v := .fn _ _ _) rfl)<|ze (indexFuncJ_spec xs hl hp) rfl<|z2 (q9 rfl rfl)<|z2 (zAb rfl)<|z6<|zf<|zj (x := .bool _) rfl ?_
 rw [firstI_ge]
def kindV (f : PFunc) (v : Int) : Int := ((f.vars[v.toNat]?).map (·.ty)).getD 0
theorem hasV_get {f : PFunc} {v : Int} (h : hasV f v = true) : ∃ x, f.vars[v.toNat]? = some x ∧ v = (v.toNat : Int) ∧ kindV f v = x.ty := by
 unfold hasV at h
 simp only [qw, w4] at h
 have hl : v.toNat < f.vars.length := by omega
 refine ⟨f.vars[v.toNat], qj hl, by omega, ?_⟩
 unfold kindV; rw [qj hl]; rfl
theorem kind_spec (f : PFunc) (v : Int) (hv : hasV f v = true) : AFun prog E 168 [.agg (encF f), .int .i64 v] (.int .i64 (kindV f v)) := by
 obtain ⟨x, hx, hv2, hk⟩ := hasV_get hv
 rw [hk]
 refine zo func168 rfl (by decide) rfl<|zSr<|y7 (cs := _) rfl rfl rfl<|z2 (zAi rfl)<|z6<|zSr<|z2 (zFF underlying26 rfl sizeOf22 rfl rfl)<|z2 (zLf isAgg22 rfl)<|z2 (zMi rfl)<|z2 (zIM v.toNat underlying22 sizeOf56 rfl rfl hv2 hx)<|z2 (zFF underlying56 rfl sizeOf54 rfl rfl)<|z2 (zLi isAgg54 rfl)<|z2 (zAi rfl)<|z6<|zf<|zj (x := .int _ _) rfl ?_
 rfl
theorem any_spec (op : Int) : AFun prog E 169 [.int .i64 op] (.bool (decide (op = 1))) := by
 refine zo func169 rfl (by decide) rfl<|zSr<|z2 (zAb rfl)<|z6<|zSr<|z2 (zMi rfl)<|z2 (y3 rfl rfl)<|z2 (zAb rfl)<|z6<|zf<|zj (x := .bool _) rfl ?_
 simp_all
theorem headD_at : ∀ {l : List Int} (h : 0 < l.length), l.headD 0 = l[0]
 | [], h => absurd h (Nat.lt_irrefl 0)
 | _ :: _, _ => rfl
def instT (f : PFunc) (x : PInst) : Bool := if x.op = 1 then decide (kindV f x.dst = kindV f (x.args.headD 0)) else decide (x.args.map (kindV f) = takesL x.op) && (!makesB x.op || decide (kindV f x.dst = makesT x.op))
theorem map_take_succ {f : PFunc} {xs ts : List Int} {k : Nat} (h1 : k < xs.length) (h2 : k < ts.length) (h : (xs.take k).map (kindV f) = ts.take k) (hk : kindV f xs[k] = ts[k]) : (xs.take (k + 1)).map (kindV f) = ts.take (k + 1) := by
 rw [qk h1, qk h2, List.map_append, h, List.map_cons, List.map_nil, hk]
theorem map_ne {f : PFunc} {xs ts : List Int} {k : Nat} (h1 : k < xs.length) (h2 : k < ts.length) (hk : ¬ kindV f xs[k] = ts[k]) : ¬ xs.map (kindV f) = ts := by
 intro e
 apply hk
 subst e
 rw [List.getElem_map]
theorem yinst_spec (f : PFunc) (x : PInst) (ha : x.args.all (hasV f) = true) (hl : x.args.length = (takesL x.op).length) (hd : makesB x.op = true → hasV f x.dst = true) :
  AFun prog E 116 [.agg (encF f), .agg (encInst x)] (.bool (instT f x)) := by
 have hlen : (takesL x.op).length ≤ 3 := by
  rcases kRow_mem x.op with h | h
  ·unfold takesL; rw [h]; decide
  ·have : ∀ r ∈ kindT, r.2.1.data.toList.length ≤ 3 := by decide
   have := this _ h
   unfold takesL; simpa using this
 refine zo func116 rfl (by decide) rfl<|zSr<|y7 (cs := _) rfl rfl rfl<|y7 (cs := _) rfl rfl rfl<|z2 (zAb rfl)<|z6<|za<|zSr<|z2 (zFF underlying33 rfl sizeOf31 rfl rfl)<|z2 (zLi isAgg31 rfl)<|ze (any_spec _) rfl<|z6<|zp rfl (fun c1=>?_) (fun c1=>?_)
 ·have e1 : x.op = 1 := by simpa using c1
  have hlz : 0 < x.args.length := by rw [hl, e1]; decide
  have hv0 : hasV f x.args[0] = true := List.all_eq_true.1 ha _ (qn hlz)
  have hvd : hasV f x.dst = true := hd (by rw [e1]; decide)
  refine za<|y1 (fun j => false) (by kernel_rfl) rfl (zn (.rest _))<|zTk 0 rfl (zk isAgg26 sizeOf26 rfl rfl)<|zTk 1 rfl (zFF underlying33 rfl sizeOf3 rfl rfl)<|zTk 2 rfl (zLi isAgg3 rfl)<|zTk 4 rfl (zk isAgg26 sizeOf26 rfl rfl)<|zTk 5 rfl (zFF underlying33 rfl sizeOf23 rfl rfl)<|zTk 6 rfl (zLf isAgg23 rfl)<|zTk 7 rfl (zIM 0 underlying23 sizeOf3 rfl rfl rfl (qj hlz))<|zTk 8 rfl (zLi isAgg3 rfl)<|zOn 3 rfl<|ze (kind_spec _ _ (by assumption)) rfl<|z6<|zOn 9 rfl<|ze (kind_spec _ _ (by assumption)) rfl<|z6<|zTk 10 rfl (y3 rfl rfl)<|zTk 11 rfl (zAb rfl)<|zDn<|zf<|zj (x := .bool _) rfl ?_
  exact jb (by unfold instT; rw [if_pos e1, headD_at hlz])
 ·have e1 : ¬ x.op = 1 := by simpa using c1
  refine zc<|za<|zSr<|z2 (zFF underlying33 rfl sizeOf31 rfl rfl)<|z2 (zLi isAgg31 rfl)<|ze (takes_spec _) rfl<|z2 (zz underlying217 rfl)<|z2 (zMi rfl)<|z6<|zh<|y6 (γ := Nat) [2, 3, 25, 26] (fun k => [(27, .int .i64 k)]) (fun k => []) (fun k => k ≤ (takesL x.op).length ∧ (x.args.take k).map (kindV f) = (takesL x.op).take k) (fun k => (takesL x.op).length - k) 0 zR1 zLe (⟨qm _, rfl⟩) ?_
  rintro k ⟨hk, hall⟩
  refine zSr<|z2 (y8 rfl rfl)<|z6<|za<|zp rfl (fun ck=>?_) (fun ck=>?_)
  ·have hk2 : k < (takesL x.op).length := by simp at ck; omega
   have hk3 : k < x.args.length := by omega
   have hvk : hasV f x.args[k] = true := List.all_eq_true.1 ha _ (qn hk3)
   refine zc<|za<|zh<|zSr<|z2 (zMi rfl)<|z2 (zIM k underlying217 sizeOf54 rfl rfl rfl (qj hk2))<|z2 (zLi isAgg54 rfl)<|z2 (zAi rfl)<|z2 (zAi rfl)<|z6<|za<|y1 (fun j => false) (by kernel_rfl) rfl (zn (.rest _))<|zTk 0 rfl (zk isAgg26 sizeOf26 rfl rfl)<|zTk 1 rfl (zFF underlying33 rfl sizeOf23 rfl rfl)<|zTk 2 rfl (zLf isAgg23 rfl)<|zTk 3 rfl (zMi rfl)<|zTk 4 rfl (zIM k underlying23 sizeOf3 rfl rfl rfl (qj hk3))<|zTk 5 rfl (zLi isAgg3 rfl)<|zTk 7 rfl (zMi rfl)<|zOn 6 rfl<|ze (kind_spec _ _ (by assumption)) rfl<|z6<|zTk 8 rfl (yi rfl rfl)<|zDn<|zr rfl (fun cn=>?_) (fun cn=>?_)
   ·refine zSr<|z2 (zAb rfl)<|z6<|zf<|zj (x := .bool _) rfl ?_
    exact jb (by unfold instT; rw [if_neg e1, qv (map_ne hk3 hk2 (by simpa using cn))]; rfl)
   ·refine zc<|zRg<|z2 (zAd rfl rfl)<|z2 (zMi rfl)<|z6 ?_
    exact ⟨k + 1, zR4, zR1, zLe, ⟨hk2, map_take_succ hk3 hk2 hall (by simpa using cn)⟩, by omega⟩
  ·have hkn : k = (takesL x.op).length := by simp at ck; omega
   subst hkn
   rw [qo, ← hl, qo] at hall
   refine y4<|zSr<|z2 (zFF underlying33 rfl sizeOf31 rfl rfl)<|z2 (zLi isAgg31 rfl)<|ze (makes_spec _) rfl<|z2 (zMu rfl)<|z2 (zXi rfl rfl)<|z2 (zXb rfl rfl)<|z2 (zAi rfl)<|z2 (zAb rfl)<|z6<|zSr<|z2 (zMb rfl)<|z2 (yd rfl)<|z2 (zMb rfl)<|zl (s := 50) rfl (fun c1=>?_) (fun c1=>?_)
   ·refine z7 rfl rfl c1<|z7 rfl rfl c1<|z7 rfl rfl c1<|z7 rfl rfl c1<|z7 rfl rfl c1<|z7 rfl rfl c1<|z2 (zPt rfl c1 rfl)<|z2 (zAb rfl)<|z6<|zf<|zj (x := .bool _) rfl ?_
    exact jb (by unfold instT; rw [if_neg e1, qu hall]; simp_all)
   ·refine z8 rfl rfl c1<|z2 (zk isAgg26 sizeOf26 rfl rfl)<|z8 rfl rfl c1<|z2 (zFF underlying33 rfl sizeOf3 rfl rfl)<|z8 rfl rfl c1<|z2 (zLi isAgg3 rfl)<|z8 rfl rfl c1<|ze (kind_spec f x.dst (hd (by simp_all))) rfl<|z8 rfl rfl c1<|z2 (zMi rfl)<|z8 rfl rfl c1<|z2 (y3 rfl rfl)<|z2 (zPf rfl c1 rfl)<|z2 (zAb rfl)<|z6<|zf<|zj (x := .bool _) rfl ?_
    exact jb (by unfold instT; rw [if_neg e1, qu hall]; simp_all)
def phiT (f : PFunc) (p : PPhi) : Bool := !(p.args.any fun v => !decide (kindV f v = kindV f p.dst))
theorem yphi1_spec (f : PFunc) (p : PPhi) (v : Int) (hv : hasV f v = true) (hd : hasV f p.dst = true) : AFun prog E 167 ([.int .i64 v] ++ [.pf (encF f), .pf (encPhi p)]) (.bool (!decide (kindV f v = kindV f p.dst))) := by
 refine zo func167 rfl (by decide) rfl<|zSr<|z2 (zAb rfl)<|z6<|za<|y1 (fun j => false) (by kernel_rfl) rfl (zn (.rest _))<|zTk 0 rfl (zk isAgg26 sizeOf26 rfl rfl)<|zTk 1 rfl (zMi rfl)<|zTk 3 rfl (zk isAgg26 sizeOf26 rfl rfl)<|zTk 4 rfl (zFF underlying95 rfl sizeOf3 rfl rfl)<|zTk 5 rfl (zLi isAgg3 rfl)<|zOn 2 rfl<|ze (kind_spec _ _ (by assumption)) rfl<|z6<|zOn 6 rfl<|ze (kind_spec _ _ (by assumption)) rfl<|z6<|zTk 7 rfl (yi rfl rfl)<|zTk 8 rfl (zAb rfl)<|zDn<|zf<|zj (x := .bool _) rfl ?_
 simp_all
theorem yphi_spec (f : PFunc) (p : PPhi) (hp : okPhi p) (ha : p.args.all (hasV f) = true) (hd : hasV f p.dst = true) : AFun prog E 115 [.agg (encF f), .agg (encPhi p)] (.bool (phiT f p)) := by
 have hl1 := hp.1.lt
 refine zo func115 rfl (by decide) rfl<|zSr<|y7 (cs := _) rfl rfl rfl<|y7 (cs := _) rfl rfl rfl<|z2 (zAb rfl)<|z6<|zSr<|z2 (zFF underlying95 rfl sizeOf23 rfl rfl)<|z2 (zLf isAgg23 rfl)<|z2 (Gv.func rfl rfl)<|ze (containsFuncJ_spec p.args (by omega) (fun v hv => yphi1_spec f p v (List.all_eq_true.1 ha v hv) hd)) rfl<|z2 (yd rfl)<|z2 (zAb rfl)<|z6<|zf<|zj (x := .bool _) rfl ?_
 rfl
def termT (f : PFunc) (t : PTerm) : Bool := if t.kind = 0 then !decide (t.to0 = 0) else if t.kind = 1 then decide (kindV f t.var = 1) && !decide (t.to0 = 0) && !decide (t.to1 = 0) else decide (kindV f t.var = 0)
theorem yterm_spec (f : PFunc) (t : PTerm) (h : ¬ t.kind = 0 → hasV f t.var = true) : AFun prog E 117 [.agg (encF f), .agg (encTerm t)] (.bool (termT f t)) := by
 refine zo func117 rfl (by decide) rfl<|zSr<|y7 (cs := _) rfl rfl rfl<|y7 (cs := _) rfl rfl rfl<|z2 (zAb rfl)<|z6<|za<|zSr<|z2 (zFF underlying64 rfl sizeOf61 rfl rfl)<|z2 (zLi isAgg61 rfl)<|z6<|zh<|zSr<|z2 (y3 rfl rfl)<|z2 (zAb rfl)<|z6<|zr rfl (fun c2=>?_) (fun c2=>?_)
 ·refine zSr<|z2 (zFF underlying64 rfl sizeOf62 rfl rfl)<|z2 (yo (j := 0) underlying62 sizeOf3 rfl rfl rfl (by decide) rfl)<|z2 (zLi isAgg3 rfl)<|z2 (yi rfl rfl)<|z2 (zAb rfl)<|z6<|zf<|zj (x := .bool _) rfl ?_
  exact jb (by unfold termT; simp_all)
 ·refine zSr<|z2 (y3 rfl rfl)<|z2 (zAb rfl)<|z6<|zr rfl (fun c3=>?_) (fun c3=>?_)
  ·refine zSr<|z2 (zk isAgg26 sizeOf26 rfl rfl)<|z2 (zFF underlying64 rfl sizeOf3 rfl rfl)<|z2 (zLi isAgg3 rfl)<|ze (kind_spec f t.var (h (by simp_all))) rfl<|z2 (y3 rfl rfl)<|z2 (zMb rfl)<|zl (s := 20) rfl (fun c4=>?_) (fun c4=>?_)
   ·refine z8 rfl rfl c4<|z2 (zFF underlying64 rfl sizeOf62 rfl rfl)<|z8 rfl rfl c4<|z2 (yo (j := 0) underlying62 sizeOf3 rfl rfl rfl (by decide) rfl)<|z8 rfl rfl c4<|z2 (zLi isAgg3 rfl)<|z8 rfl rfl c4<|z2 (yi rfl rfl)<|z2 (zPt rfl c4 rfl)<|z2 (zMb rfl)<|zl (s := 26) rfl (fun c5=>?_) (fun c5=>?_)
    ·refine z8 rfl rfl c5<|z2 (zFF underlying64 rfl sizeOf62 rfl rfl)<|z8 rfl rfl c5<|z2 (yo (j := 1) underlying62 sizeOf3 rfl rfl rfl (by decide) rfl)<|z8 rfl rfl c5<|z2 (zLi isAgg3 rfl)<|z8 rfl rfl c5<|z2 (yi rfl rfl)<|z2 (zPt rfl c5 rfl)<|z2 (zAb rfl)<|z6<|zf<|zj (x := .bool _) rfl ?_
     exact jb (by unfold termT; simp_all)
    ·refine z7 rfl rfl c5<|z7 rfl rfl c5<|z7 rfl rfl c5<|z7 rfl rfl c5<|z2 (zPf rfl c5 rfl)<|z2 (zAb rfl)<|z6<|zf<|zj (x := .bool _) rfl ?_
     exact jb (by unfold termT; simp_all)
   ·refine z7 rfl rfl c4<|z7 rfl rfl c4<|z7 rfl rfl c4<|z7 rfl rfl c4<|z2 (zPf rfl c4 rfl)<|z2 (zMb rfl)<|z7 rfl rfl rfl<|z7 rfl rfl rfl<|z7 rfl rfl rfl<|z7 rfl rfl rfl<|z2 (zPf rfl rfl rfl)<|z2 (zAb rfl)<|z6<|zf<|zj (x := .bool _) rfl ?_
    exact jb (by unfold termT; simp_all)
  ·refine zc<|zSr<|z2 (zk isAgg26 sizeOf26 rfl rfl)<|z2 (zFF underlying64 rfl sizeOf3 rfl rfl)<|z2 (zLi isAgg3 rfl)<|ze (kind_spec f t.var (h (by simp_all))) rfl<|z2 (y3 rfl rfl)<|z2 (zAb rfl)<|z6<|zf<|zj (x := .bool _) rfl ?_
   exact jb (by unfold termT; simp_all)
end Go.Proofs.YtjnpcfpecilejaaGreatDoor
namespace Go.Proofs.YtjnpcfpecilejaaGreatDoor
open Go.Proofs.Tryz
def hAdd (h : Rng × Bool) (n : Int) (fits : Bool) (e : Int) : Rng × Bool := (rJoin h.1 (rOf (if fits then n else e)), h.2 || !fits)
def h4 (h : Rng × Bool) (a b : Rng) (n : Int → Int → Int) (fit : Int → Int → Bool) (e : Int → Int → Int) : Rng × Bool :=
 hAdd (hAdd (hAdd (hAdd h (n a.1 b.1) (fit a.1 b.1) (e a.1 b.1)) (n a.1 b.2) (fit a.1 b.2) (e a.1 b.2)) (n a.2 b.1) (fit a.2 b.1) (e a.2 b.1)) (n a.2 b.2) (fit a.2 b.2) (e a.2 b.2)
instance (k : Nat) (x y : Int) : Decidable (fit3 k x y) := by unfold fit3 is64; infer_instance
instance (k : Nat) (a b : Rng) : Decidable (cornF k a b) := by unfold cornF; infer_instance
def cornP (k : Nat) (a b : Rng) : Rng × Bool := h4 (noR, false) a b (op3 k) (fun x y => decide (fit3 k x y)) (near3 k)
theorem cornP_eq (k : Nat) (a b : Rng) : cornP k a b = (clipQ k a b, !decide (cornF k a b)) := by
 rw [← corn_eq]
 unfold cornP h4 hAdd cornR cornF one3
 simp only [Bool.false_or, w4]
 refine Prod.ext rfl ?_
 dsimp only
 by_cases h1 : fit3 k a.1 b.1 <;> by_cases h2 : fit3 k a.1 b.2 <;> by_cases h3 : fit3 k a.2 b.1 <;> by_cases h4 : fit3 k a.2 b.2 <;> simp [h1, h2, h3, h4]
set_option linter.defProp false
def yb := @AOps.makeNest
def yx := @Gv.idxI
def q6 := @AOps.nestTake
def qc := @AOps.nestPut
def qd := @Gv.loadI
def qf := @Gv.idxN
end Go.Proofs.YtjnpcfpecilejaaGreatDoor
