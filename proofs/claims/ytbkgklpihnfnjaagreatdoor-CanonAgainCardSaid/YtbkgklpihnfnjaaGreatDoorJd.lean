/- A slice of one's own, cut to its first part. No conditions but bounds. -/
import Derived.Test.YtbkgklpihnfnjaaGreatDoorJc
import Derived.MapKept
import Derived.WideMake
import Derived.Laws.Cover4
import Derived.WideLaws
import Derived.Lib.AppendZeros
import Derived.Lib.Builder
import Derived.Lib.AppendStr
import Derived.Lib.UnsafeStr
import Derived.Laws.Externs
set_option linter.unusedVariables false
set_option linter.unusedSimpArgs false
set_option linter.unusedSectionVars false
namespace Go.Proofs.YtbkgklpihnfnjaaGreatDoor
section
variable {E : World} {P : Program} {n : Nat} {ops : Array Oper} {K : AEnv → OL → Prop} {env : AEnv} {O O' : OL} {rest : List Oper}
variable {d ty : Nat} {pos : String} {af : Array Edge} {t e : TypeId} {x y : Operand}
def noIface : TypeDesc → Bool
 | .interface _ => false
 | _ => true
theorem Gv.mkI {T : TypeId} {D : TypeDesc} {v : AV} (ht : P.underlying T = some D) (hD : noIface D = true) (hx : aev env x = v) : Gv P env O (Oper.mk (some d) (.makeInterface T x) ty pos af none) (.ifc T v) := q6 fun I ρ h =>
 ⟨.iface T (ev ρ x), ⟨_, rfl, hx ▸ h.ev x⟩, fun w => by
  simp only [execOp, Instr.makeInterface, Sem.run_bind, run_underlying ht]
  cases D <;> first | rfl | cases hD⟩
theorem Gv.assertT {T X : TypeId} {D : TypeDesc} {v : AV} (ht : P.underlying T = some D) (hD : noIface D = true) (hx : aev env x = .ifc T v) : Gv P env O (Oper.mk (some d) (.typeAssert x X T true) ty pos af none) (.tup [v, .bool true]) := q6 fun I ρ h => by
 have h2 := h.ev x
 rw [hx] at h2
 obtain ⟨u, e, h3⟩ := h2
 refine ⟨.tuple #[u, .bool true], ⟨[u, .bool true], Z, _, _, Z, h3, _, _, Z, Z, Z⟩, fun w=>?_⟩
 simp only [execOp, Instr.typeAssert, Sem.run_bind, run_underlying ht, e]
 cases D <;> first | (simp; done) | cases hD
theorem Gv.assert1 {T X : TypeId} {D : TypeDesc} {v : AV} (ht : P.underlying T = some D) (hD : noIface D = true) (hx : aev env x = .ifc T v) : Gv P env O (Oper.mk (some d) (.typeAssert x X T false) ty pos af none) v := q6 fun I ρ h => by
 have h2 := h.ev x
 rw [hx] at h2
 obtain ⟨u, e, h3⟩ := h2
 refine ⟨u, h3, fun w=>?_⟩
 simp only [execOp, Instr.typeAssert, Sem.run_bind, run_underlying ht, e]
 cases D <;> first | (simp; done) | cases hD
theorem Gv.assertF {T T' X : TypeId} {D : TypeDesc} {v zx : AV} {zv : Value} (ht : P.underlying T = some D) (hD : noIface D = true) (hx : aev env x = .ifc T' v) (hne : ¬ T' = T) (hz : ∀ w, (zeroValue T).run P w = .ok zv w) (hzx : ∀ I, RepV I zx zv) :
  Gv P env O (Oper.mk (some d) (.typeAssert x X T true) ty pos af none) (.tup [zx, .bool false]) := q6 fun I ρ h => by
 have h2 := h.ev x
 rw [hx] at h2
 obtain ⟨u, e, h3⟩ := h2
 refine ⟨.tuple #[zv, .bool false], ⟨[zv, .bool false], Z, _, _, Z, hzx I, _, _, Z, Z, Z⟩, fun w=>?_⟩
 simp only [execOp, Instr.typeAssert, Sem.run_bind, run_underlying ht, e]
 cases D <;> first | (simp [hne, hz]; done) | cases hD
theorem AOps.callM {f : FuncId} {T : TypeId} {v r : AV} {recv : Operand} {name : String} {args : List Operand} {tys : Array TypeId} {as' : List AV} (hc : AFun P E f (v :: as') r) (hx : aev env recv = .ifc T v)
  (hm : ∀ u w, (method (P.types.size + Made.depth) T u name).run P w = .ok (f, u) w) (ha : args.map (aev env) = as')
  (k : AOps P E ops K rest (aupd env d r) O) : AOps P E ops K (Oper.mk (some d) (.call { callee := .invoke recv name, args := args.toArray, argTypes := tys }) ty pos af none :: rest) env O := fun I F ρ w h1 h2 => by
 have h3 := h1.ev recv
 rw [hx] at h3
 obtain ⟨u, e, h4⟩ := h3
 obtain ⟨L2, hL2, h5⟩ := h2.split (O1 := []) (O2 := O) (.refl _)
 obtain ⟨⟨fn, c, hf, hb, hn⟩, hcalls⟩ := hc I (L2 ++ F) w (u :: args.map (Go.Proofs.YtbkgklpihnfnjaaGreatDoor.ev ρ)) ⟨u, _, rfl, h4, ha ▸ h1.evs args⟩ h5
 refine Ops.step Z ?_
 unfold OpW
 have : (execOp (Go.Proofs.YtbkgklpihnfnjaaGreatDoor.ev ρ) (Oper.mk (some d) (.call { callee := .invoke recv name, args := args.toArray, argTypes := tys }) ty pos af none)).run P w = .ok (.enter f (u :: args.map (Go.Proofs.YtbkgklpihnfnjaaGreatDoor.ev ρ)).toArray) w := by
  simp [execOp, resolve, invoke, callMethod, e, hm, callFunc, hf, hb, hn]
  exact List.take_of_length_le (by simp)
 rw [this]
 refine hcalls.mono fun e w' ⟨v', h6, J, r', O1', hle, hr, hS, hR⟩ => ⟨v', h6, ?_⟩
 subst hR
 exact yu (fun _ _ => postK.up hle) _ _ _ (k J F _ _ ((h1.mono hle).upd d hr) ⟨hS.1, L2, hL2.mono hle, hS.drops⟩)
theorem RepR.drop {I : G} {k n c j : Nat} {a : Option Addr} {rows : List (List AV)} (hn : n = rows.length) (hnc : n ≤ c) (hr : RepR I k a 0 rows) : RepR I k (if c = j then a else a.map (·.add (j * k))) 0 (rows.drop j) :=
 RepR.intro fun j' r hj => by
  rw [List.getElem?_drop] at hj
  have hlt := (List.getElem?_eq_some_iff.1 hj).1
  obtain ⟨b, off, vs, rfl, h4, h5, h6⟩ := hr.get hj
  rw [if_neg (by omega)]
  refine ⟨b, off + j * k, vs, by simp [Addr.add], h4, h5, fun i u hu => ?_⟩
  have := h6 i u hu
  rw [Nat.zero_add, Nat.add_mul] at this
  rw [Nat.zero_add]
  rwa [← Nat.add_assoc] at this
theorem RepR.take {I : G} {k j : Nat} {a : Option Addr} {rows : List (List AV)} (hr : RepR I k a 0 rows) : RepR I k a 0 (rows.take j) :=
 RepR.intro fun j' r hj => by
  rw [List.getElem?_take] at hj
  split at hj
  ·exact hr.get hj
  ·cases hj
theorem Gv.cutLo {k j : Nat} {a : Int} {rows : List (List AV)} (ht : P.underlying t = some (.slice e)) (hs : ∀ w, (sizeOf e).run P w = .ok k w) (hx : aev env x = .fro k rows) (hy : aev env y = .int .i64 a) (hi : a = (j : Int)) (hj : j ≤ rows.length) :
  Gv P env O (Oper.mk (some d) (.slice t x (some y) none none) ty pos af none) (.fro k (rows.drop j)) := q6 fun I ρ h => by
 have h2 := h.ev x
 rw [hx] at h2
 obtain ⟨p, n, c, ex, hn, hnc, hnil, hr⟩ := h2
 have h3 := evI h hy
 subst hi
 refine ⟨.slice (if c = j then p else p.map (·.add (j * k))) (n - j) (c - j), ⟨_, _, _, Z, by rw [List.length_drop, hn], by omega, fun hp=>?_, hr.drop hn hnc⟩, fun w=>?_⟩
 ·split at hp
  ·omega
  ·cases p with
   | none => have := hnil rfl; omega
   | some q => cases hp
 ·have hjn : j ≤ n := by omega
  simp [execOp, Instr.sliceAt, Instr.slice, Instr.sliceBounds, Instr.sliceBound, asIntOf, Sem.run_bind, run_underlying ht, hs, ex, h3, hjn]
theorem Gv.cutHi {k j : Nat} {a : Int} {rows : List (List AV)} (ht : P.underlying t = some (.slice e)) (hs : ∀ w, (sizeOf e).run P w = .ok k w) (hx : aev env x = .fro k rows) (hy : aev env y = .int .i64 a) (hi : a = (j : Int)) (hj : j ≤ rows.length) :
  Gv P env O (Oper.mk (some d) (.slice t x none (some y) none) ty pos af none) (.fro k (rows.take j)) := q6 fun I ρ h => by
 have h2 := h.ev x
 rw [hx] at h2
 obtain ⟨p, n, c, ex, hn, hnc, hnil, hr⟩ := h2
 have h3 := evI h hy
 subst hi
 refine ⟨.slice (if c = 0 then p else p.map (·.add (0 * k))) (j - 0) (c - 0), ⟨_, _, _, Z, by rw [qp]; omega, by omega, fun hp=>?_, ?_⟩, fun w=>?_⟩
 ·split at hp
  ·omega
  ·cases p with
   | none => have := hnil rfl; omega
   | some q => cases hp
 ·have : (if c = 0 then p else p.map (·.add (0 * k))) = p := by
   split
   ·rfl
   ·cases p <;> simp [Addr.add]
  rw [this]; exact hr.take
 ·have hjn : j ≤ c := by omega
  simp [execOp, Instr.sliceAt, Instr.slice, Instr.sliceBounds, Instr.sliceBound, asIntOf, Sem.run_bind, run_underlying ht, hs, ex, h3, hjn]
theorem Gv.cutLoM {α : Type} {enc : α → List AV} {xs : List α} {k j : Nat} {a : Int} (ht : P.underlying t = some (.slice e)) (hs : ∀ w, (sizeOf e).run P w = .ok k w) (hx : aev env x = .fro k (xs.map enc)) (hy : aev env y = .int .i64 a) (hi : a = (j : Int)) (hj : j ≤ xs.length) :
  Gv P env O (Oper.mk (some d) (.slice t x (some y) none none) ty pos af none) (.fro k ((xs.drop j).map enc)) := by
 have := Gv.cutLo (d := d) (ty := ty) (pos := pos) (af := af) (O := O) ht hs hx hy hi (by rwa [qk])
 rwa [← List.map_drop] at this
theorem Gv.cutHiM {α : Type} {enc : α → List AV} {xs : List α} {k j : Nat} {a : Int} (ht : P.underlying t = some (.slice e)) (hs : ∀ w, (sizeOf e).run P w = .ok k w) (hx : aev env x = .fro k (xs.map enc)) (hy : aev env y = .int .i64 a) (hi : a = (j : Int)) (hj : j ≤ xs.length) :
  Gv P env O (Oper.mk (some d) (.slice t x none (some y) none) ty pos af none) (.fro k ((xs.take j).map enc)) := by
 have := Gv.cutHi (d := d) (ty := ty) (pos := pos) (af := af) (O := O) ht hs hx hy hi (by rwa [qk])
 rwa [← List.map_take] at this
theorem AOps.cut0 {i k m : Nat} {T : TypeId} {cs : List AV} (ht : P.underlying t = some (.slice e)) (hs : ∀ w, (sizeOf e).run P w = .ok k w) (hx : aev env x = .own i m) (hy : aev env y = .int .i64 0) (hO : Put O i (.grow k T cs) (.grow k T []) O')
  (kk : AOps P E ops K rest (aupd env d (.own i 0)) O') : AOps P E ops K (Oper.mk (some d) (.slice t x none (some y) none) ty pos af none :: rest) env O := fun I F ρ w h1 h2 => by
 obtain ⟨htop, L, hL, hS⟩ := h2
 have h3 := h1.ev x
 rw [hx] at h3
 obtain ⟨b, c, e1, e2⟩ := h3
 have h4 := evI h1 hy
 obtain ⟨A, B, hp, ⟨b', c', n', vs, e3, hvs, hvc, h5, h6, h7⟩, hback⟩ := hO.rep hL
 simp only at e3
 rw [e1] at e3
 simp only [Option.some.injEq, Prod.mk.injEq] at e3
 obtain ⟨rfl, rfl⟩ := e3
 have hval : (execOp (Go.Proofs.YtbkgklpihnfnjaaGreatDoor.ev ρ) (Oper.mk (some d) (.slice t x none (some y) none) ty pos af none)).run P w = .ok (.value (.slice (adr b) 0 c)) w := by
  have : (if c = 0 then adr b else (adr b).map (·.add (0 * k))) = adr b := by
   split
   ·rfl
   ·cases b <;> simp [adr, Addr.add]
  have h0 : (0 : Int) ≤ (c : Int) := by omega
  simp [execOp, Instr.sliceAt, Instr.slice, Instr.sliceBounds, Instr.sliceBound, asIntOf, Sem.run_bind, run_underlying ht, hs, e2, h4, h0]
  simpa using this
 obtain ⟨L', h8, h9⟩ := hback (qa I) (A' := A) ⟨b, c, 0, [], e1, rfl, by simp, by simp, qg _, by
  rcases h7 with h7 | ⟨b2, junk, e4, e5, e6⟩
  ·exact .inl ⟨h7.1, h7.2.1, h7.2.2⟩
  ·exact .inr ⟨b2, vs ++ junk, e4, by simpa using e5, by simpa using e6⟩⟩
 exact Ops.val hval (kk I F _ w (h1.upd d ⟨b, c, e1, rfl⟩) ⟨htop, L', h8, hS.perm ((h9.trans hp.symm).append_right F)⟩)
end
end Go.Proofs.YtbkgklpihnfnjaaGreatDoor
namespace Go.Proofs.YtbkgklpihnfnjaaGreatDoor
def mget (s : ByteArray) : List (ByteArray × Int) → Option Int
 | [] => none
 | (k, v) :: es => if s = k then some v else mget s es
def mset (s : ByteArray) (v : Int) : List (ByteArray × Int) → List (ByteArray × Int)
 | [] => [(s, v)]
 | (k, u) :: es => if s = k then (k, v) :: es else (k, u) :: mset s v es
def encME (p : ByteArray × Int) : Value × Value := (.string p.1, .int .i64 p.2)
def mapP (b : Nat) (es : List (ByteArray × Int)) (L : List (Nat × Obj)) : Prop := ∃ (arr : Array MapEntry) (clock : Nat), L = [(b, .map arr clock)] ∧ arr.toList.map (fun e => (e.key, e.val)) = es.map encME
def mapO (b : Nat) (es : List (ByteArray × Int)) : AObj := .heap (mapP b es)
def mref (b : Nat) : AV := .raw (.map (some b))
theorem findNow_none {s : ByteArray} : ∀ {l : List MapEntry} {es : List (ByteArray × Int)} {i : Nat}, l.map (fun e => (e.key, e.val)) = es.map encME → mget s es = none → Instr.findNow .string (.string s) l i = some none
 | [], [], _, _, _ => rfl
 | [], _ :: _, _, h, _ => by cases h
 | _ :: _, [], _, h, _ => by cases h
 | e :: l, (k, v) :: es, i, h, hg => by
  simp only [List.map_cons, List.cons.injEq, encME, Prod.mk.injEq] at h
  obtain ⟨⟨h1, _⟩, h2⟩ := h
  simp only [mget] at hg
  split at hg
  ·cases hg
  ·rename_i hne
   unfold Instr.findNow
   rw [h1]
   have : (s == k) = false := Bool.eq_false_iff.2 fun h => hne ((MapKept.bytes_beq s k).1 h)
   simp only [Instr.sameNow, this]
   exact findNow_none h2 hg
theorem findNow_some {s : ByteArray} {u : Int} : ∀ {l : List MapEntry} {es : List (ByteArray × Int)} {i : Nat}, l.map (fun e => (e.key, e.val)) = es.map encME → mget s es = some u →
  ∃ j, Instr.findNow .string (.string s) l i = some (some (i + j, .int .i64 u)) ∧ (∃ e, l[j]? = some e ∧ e.key = .string s) ∧ ∀ v, es.set j (s, v) = mset s v es
 | [], [], _, _, hg => by cases hg
 | [], _ :: _, _, h, _ => by cases h
 | _ :: _, [], _, h, _ => by cases h
 | e :: l, (k, v) :: es, i, h, hg => by
  simp only [List.map_cons, List.cons.injEq, encME, Prod.mk.injEq] at h
  obtain ⟨⟨h1, h3⟩, h2⟩ := h
  simp only [mget] at hg
  unfold Instr.findNow
  rw [h1]
  split at hg
  ·rename_i heq
   subst heq
   cases hg
   refine ⟨0, ?_, ⟨e, Z, h1⟩, fun v=>?_⟩
   ·have hss : (s == s) = true := (MapKept.bytes_beq s s).2 rfl
    simp only [Instr.sameNow, hss]
    rw [h3]; rfl
   ·simp [mset]
  ·rename_i hne
   have hb : (s == k) = false := Bool.eq_false_iff.2 fun h => hne ((MapKept.bytes_beq s k).1 h)
   obtain ⟨j, g1, g2, g3⟩ := findNow_some (i := i + 1) h2 hg
   refine ⟨j + 1, ?_, by simpa using g2, fun v=>?_⟩
   ·simp only [Instr.sameNow, hb, g1]
    congr 3; omega
   ·simp [mset, hne, g3]
section
variable {E : World} {P : Program} {n : Nat} {ops : Array Oper} {K : AEnv → OL → Prop} {env : AEnv} {O O' : OL} {rest : List Oper}
variable {d ty : Nat} {pos : String} {af : Array Edge} {t e kt : TypeId} {x y z : Operand} {b i : Nat} {es : List (ByteArray × Int)}
theorem AOps.makeMap (k : ∀ b, AOps P E ops K rest (aupd env d (mref b)) ((0, mapO b []) :: O)) : AOps P E ops K (Oper.mk (some d) (.makeMap t none) ty pos af none :: rest) env O := fun I F ρ w h1 ⟨ht, L, hL, hS⟩ => by
 refine Ops.step Z ?_
 unfold OpW
 have : (execOp (Go.Proofs.YtbkgklpihnfnjaaGreatDoor.ev ρ) (Oper.mk (some d) (.makeMap t none) ty pos af none)).run P w = .ok (.value (.map (some w.heap.size))) (w.alloc (.map #[] 0)) := by
  simp only [execOp, Option.map_none]
  rw [Sem.run_bind, run_makeMap_plain]; rfl
 rw [this]
 exact k w.heap.size I F _ _ (h1.upd d rfl) ⟨ht, (w.heap.size, .map #[] 0) :: L, ⟨[_], L, rfl, ⟨#[], 0, rfl, rfl⟩, hL⟩, hS.alloc _⟩
theorem map_in {I : G} {L : List (Nat × Obj)} (hO : Has O i (mapO b es)) (hL : RepOs I O L) : ∃ (arr : Array MapEntry) (clock : Nat), (b, Obj.map arr clock) ∈ L ∧ arr.toList.map (fun e => (e.key, e.val)) = es.map encME := by
 obtain ⟨O', hO⟩ := hO
 obtain ⟨A, B, hp, ⟨arr, clock, rfl, h2⟩, _⟩ := hO.rep hL
 exact ⟨arr, clock, hp.mem_iff.2 (by simp), h2⟩
theorem Gv.lenMap (ht : P.underlying t = some (.map kt e)) (hx : aev env x = mref b) (hO : Has O i (mapO b es)) : Gv P env O (Oper.mk (some d) (.call { callee := .builtin .len, args := #[x], argTypes := #[t] }) ty pos af none) (.int .i64 es.length) := fun I L E ρ h1 hL => by
 obtain ⟨arr, clock, hm, he⟩ := map_in hO hL
 have hx := evRaw h1 hx
 refine ⟨_, Z, fun w J L' hl hS hin => ?_⟩
 have hb := hS.own _ (hin _ hm)
 simp only at hb
 have hsz : arr.size = es.length := by
  have := congrArg List.length he
  simpa using this
 simp [execOp, resolve, hx, invoke, builtin, Builtin.len_, run_underlying ht, goInt, MapKept.run_getObj_map hb, hsz]
theorem Gv.lookupS {s : ByteArray} (ht : P.underlying t = some (.map kt e)) (hk : P.underlying kt = some .string) (hz : ∀ w, (zeroValue e).run P w = .ok (.int .i64 0) w) (hx : aev env x = mref b) (hy : aev env y = .str s) (hO : Has O i (mapO b es)) :
  Gv P env O (Oper.mk (some d) (.lookup t x y true) ty pos af none) (.tup [.int .i64 ((mget s es).getD 0), .bool (mget s es).isSome]) := fun I L E ρ h1 hL => by
 obtain ⟨arr, clock, hm, he⟩ := map_in hO hL
 have hx := evRaw h1 hx
 have hy := evT h1 hy
 refine ⟨.tuple #[.int .i64 ((mget s es).getD 0), .bool (mget s es).isSome], ⟨[_, _], Z, _, _, Z, Z, _, _, Z, Z, Z⟩, fun w J L' hl hS hin => ?_⟩
 have hb := hS.own _ (hin _ hm)
 simp only at hb
 have hc : (Instr.checkKey arr.isEmpty 10000 kt (.string s)).run P w = .ok () w := MapKept.run_checkKey (k := .string s) hk (by simp [MapKept.IsKey]) _ 9999
 cases hg : mget s es with
 | none =>
  have hf := findNow_none (i := 0) he hg
  simp [execOp, Instr.lookup, run_underlying ht, hx, hy, MapKept.run_getObj_map hb, hc, MapKept.run_findKey hk hf, hz, Result.andThen]
 | some u =>
  obtain ⟨j, hf, _⟩ := findNow_some (i := 0) he hg
  simp [execOp, Instr.lookup, run_underlying ht, hx, hy, MapKept.run_getObj_map hb, hc, MapKept.run_findKey hk hf, Result.andThen]
theorem AOps.mapSet {s : ByteArray} {v : Int} (ht : P.underlying t = some (.map kt e)) (hk : P.underlying kt = some .string) (hx : aev env x = mref b) (hy : aev env y = .str s) (hz : aev env z = .int .i64 v) (hO : Put O i (mapO b es) (mapO b (mset s v es)) O')
  (k : AOps P E ops K rest env O') : AOps P E ops K (Oper.mk none (.mapUpdate t x y z) ty pos af none :: rest) env O := fun I F ρ w h1 ⟨htop, L, hL, hS⟩ => by
 have hx := evRaw h1 hx
 have hy := evT h1 hy
 have hz := evI h1 hz
 obtain ⟨A, B, hp, ⟨arr, clock, rfl, he⟩, hback⟩ := hO.rep hL
 have hS2 : SL I.k ((b, .map arr clock) :: (B ++ F)) E w := hS.perm ((hp.append_right F).symm)
 have hb := hS2.own _ (.head _)
 simp only at hb
 have hc : (Instr.checkKey false 10000 kt (.string s)).run P w = .ok () w := MapKept.run_checkKey (k := .string s) hk (by simp [MapKept.IsKey]) false 9999
 have fin : ∀ (arr' : Array MapEntry) (clock' : Nat), arr'.toList.map (fun e => (e.key, e.val)) = (mset s v es).map encME →
   (execOp (Go.Proofs.YtbkgklpihnfnjaaGreatDoor.ev ρ) (Oper.mk none (.mapUpdate t x y z) ty pos af none)).run P w = .ok .skip { w with heap := w.heap.setIfInBounds b (.map arr' clock') } → Ops P ops (postK I F E K) (Oper.mk none (.mapUpdate t x y z) ty pos af none :: rest) ρ w := fun arr' clock' he' hrun => by
  refine Ops.step Z ?_
  unfold OpW
  rw [hrun]
  obtain ⟨L', h7, h8⟩ := hback (qa I) (A' := [(b, .map arr' clock')]) ⟨arr', clock', rfl, he'⟩
  have hh := MapKept.heap_set (o' := .map arr' clock') hb
  have hS3 : SL I.k ((b, .map arr' clock') :: (B ++ F)) E { w with heap := w.heap.setIfInBounds b (.map arr' clock') } := hS2.turn rfl rfl rfl hh.1 hh.2
  exact k I F ρ _ h1 ⟨htop, L', h7, hS3.perm (h8.append_right F)⟩
 cases hg : mget s es with
 | none =>
  have hf := findNow_none (i := 0) he hg
  refine fin (arr.push { key := .string s, val := .int .i64 v, born := clock }) (clock + 1) ?_ ?_
  ·have hset : ∀ es : List (ByteArray × Int), mget s es = none → mset s v es = es ++ [(s, v)] := fun es => by
    induction es with
    | nil => intro _; rfl
    | cons x es ih =>
     obtain ⟨k, u⟩ := x
     intro hg
     simp only [mget] at hg
     split at hg
     ·cases hg
     ·rename_i hne; simp [mset, hne, ih hg]
   rw [hset es hg]
   simp [he, encME]
  ·simp [execOp, hx, hy, hz, Instr.mapUpdate, run_underlying ht, MapKept.run_getObj_map hb, hc, MapKept.run_findKey hk hf, MapKept.run_setObj_map _ hb, Result.andThen]
 | some u =>
  obtain ⟨j, hf, ⟨e0, hj, hkey⟩, hset⟩ := findNow_some (i := 0) he hg
  rw [Nat.zero_add] at hf
  have hj' : arr[j]? = some e0 := by rw [← Array.getElem?_toList]; exact hj
  refine fin (arr.modify j fun e => { e with key := .string s, val := .int .i64 v }) clock ?_ ?_
  ·rw [← hset v, List.map_set]
   have hjl : j < arr.toList.length := (List.getElem?_eq_some_iff.1 hj).1
   have : (arr.modify j fun e => { e with key := .string s, val := .int .i64 v }).toList = arr.toList.set j { e0 with key := .string s, val := .int .i64 v } := by
    apply List.ext_getElem?
    intro q
    rw [Array.getElem?_toList, Array.getElem?_modify]
    by_cases hq : j = q
    ·subst hq
     rw [if_pos rfl, hj', List.getElem?_set_self hjl]; rfl
    ·rw [if_neg hq, List.getElem?_set_ne hq, Array.getElem?_toList]
   rw [this, List.map_set, he]; rfl
  ·have hkeep : (Instr.keyThatStays (.string s) (.string s)).run P w = .ok (.string s) w := by
    have hss : (s == s) = true := (MapKept.bytes_beq s s).2 rfl
    simp [Instr.keyThatStays, Instr.sameBits, hss]
   simp [execOp, hx, hy, hz, Instr.mapUpdate, run_underlying ht, MapKept.run_getObj_map hb, hc, MapKept.run_findKey hk hf, MapKept.run_setObj_map _ hb, Result.andThen, hj', hkey, hkeep]
def encR (n : Int) : List AV := [.int .i32 n]
theorem repR_map {I : G} : ∀ {ns : List Int} {vs : List Value}, RepL I (ns.map encR).flatten vs → vs = ns.map (Value.int .i32)
 | [], _, h => h
 | m :: ns, _, ⟨v, us, e, h1, h2⟩ => by
  have h1 : v = .int .i32 m := h1
  subst e h1
  simp [repR_map h2]
theorem Gv.runesO {src dst : TypeId} {ns : List Int} {T : TypeId} (hs : P.underlying src = some (.slice e)) (he : P.underlying e = some (.int .i32)) (hd : P.underlying dst = some .string) (hx : aev env x = .own i n) (hO : Has O i (.grow 1 T (ns.map encR).flatten)) (hn : ns.length = n) :
  Gv P env O (Oper.mk (some d) (.convert src dst x) ty pos af none) (.str (runesBytes ns)) := fun I L E ρ h1 hL => by
 have h2 := h1.ev x
 rw [hx] at h2
 obtain ⟨b, c, e1, e2⟩ := h2
 obtain ⟨O', hO⟩ := hO
 obtain ⟨A, B, hp, ⟨b', c', n', vs, e3, hvs, hvc, h5, h6, h7⟩, _⟩ := hO.rep hL
 simp only at e3
 rw [e1] at e3
 simp only [Option.some.injEq, Prod.mk.injEq] at e3
 obtain ⟨rfl, rfl⟩ := e3
 have hv := repR_map hvs
 subst hv
 have hconv : ∀ w : World, (convert src dst (.slice (adr b) n c)).run P w = (Conv.runesToString (.slice (adr b) n c)).run P w := fun w => by
  simp [convert, run_underlying hs, run_underlying hd, run_underlying he]
 refine ⟨_, Z, fun w J L' hl hS hin => ?_⟩
 rcases h7 with ⟨ea, _, rfl⟩ | ⟨b2, junk, ea, rfl, hj⟩
 ·have h0 : ns = [] := by
   have : n' * 1 = 0 := by omega
   exact qn (by simp at h5; omega)
  subst h0
  simp only [execOp, e2]
  rw [Sem.run_bind, hconv, ea]
  simp [Conv.runesToString, runesBytes]
 ·have hm : (b2, Obj.cells (ns.map (Value.int .i32) ++ junk).toArray T (0, 0)) ∈ L := hp.mem_iff.2 (by simp)
  have hload : (loadCells (⟨b2, 0, none⟩ : Addr) n).run P w = .ok (ns.map (Value.int .i32)).toArray w := by
   have := run_loadCells_list (P := P) w (⟨b2, 0, none⟩ : Addr) (ns.map (Value.int .i32)) (fun j v hj => by
    have := hS.at_ (b := b2) (i := j) (v := v) (.inr ⟨_, _, _, hin _ hm, by
     rw [List.getElem?_toArray, List.getElem?_append_left (List.getElem?_eq_some_iff.1 hj).1]; exact hj⟩)
    have ha : (⟨b2, 0, none⟩ : Addr).add j = ⟨b2, j, none⟩ := by
     rw [addr_add]; simp
    rw [ha]; exact this)
   rw [qk, hn] at this
   exact this
  simp only [execOp, e2]
  rw [Sem.run_bind, hconv, ea, run_runesToString w _ n c ns hload]; rfl
end
end Go.Proofs.YtbkgklpihnfnjaaGreatDoor
namespace Go.Proofs.YtbkgklpihnfnjaaGreatDoor
section
variable {E : World} {P : Program} {n : Nat} {ops : Array Oper} {K : AEnv → OL → Prop} {env : AEnv} {O O' : OL} {rest : List Oper} {R : AV → OL → Prop}
variable {d ty : Nat} {pos : String} {af : Array Edge} {t e : TypeId} {x y : Operand}
theorem afin.c1t {t u T i : Nat} {T' : TypeId} {cs : List AV} {n : Nat} {y : AV} (hv : env t = .po i 0) (hu : env u = y) (hO : Has O i (.cells T' cs)) (ha : ∀ w, (isAgg T).run P w = .ok true w) (hs : ∀ w, (sizeOf T).run P w = .ok n w) (hn : cs.length = n) (h : R (.tup [.agg cs, y]) O) :
  afin P E #[.cell t T, .tmp u] R .ret env O := afin.of (x := .tup [.agg cs, y]) (fun I F ρ w h1 h2 => by
 obtain ⟨L, hL, hS⟩ := h2.2
 have h3 := h1 t
 rw [hv] at h3
 obtain ⟨b, c, e1, e⟩ := h3
 obtain ⟨b', c', vs, e2, h4, hm⟩ := hO.cells hL
 rw [e1] at e2; cases e2
 have hl := run_loadVar_agg (P := P) (w := w) (b := b) (off := 0) ha (cs := vs) (by rw [h4.length, hn]; exact hs) (fun j v hj => by
  rw [Nat.zero_add]
  exact hS.at_ (.inr ⟨_, _, _, List.mem_append_left _ hm, by rw [List.getElem?_toArray]; exact hj⟩))
 exact ⟨.tuple #[.agg vs.toArray, ρ u], by simp [resE, e, asAddr, hl], ⟨[_, _], rfl, _, _, rfl, ⟨vs, rfl, h4⟩, _, _, rfl, hu ▸ h1 u, rfl⟩⟩) h
theorem run_storeRow {b off n : Nat} {vs : List Value} {T : TypeId} {old : List Value} {w : World} (hn : vs.length = n) (h1c : ∀ u ∈ vs, u.oneCell' = true) (hb : off + n ≤ old.length) (hown : w.heap[b]? = some (.cells old.toArray T (0, 0))) :
  (storeCells (⟨b, off, none⟩ : Addr) vs 0).run P w = .ok () (w.setRow b (old.take off ++ vs ++ old.drop (off + n)).toArray) := by
 rw [run_storeCells_at (P := P) b off T vs 0 old.toArray w hown (by simp; omega) h1c]
 simp [hn]
theorem Gv.cutArr {i off m : Nat} (ht : P.underlying t = some (.array m e)) (hs : ∀ w, (sizeOf e).run P w = .ok n w) (hm : m ≠ 0) (hx : aev env x = .po i off) : Gv P env O (Oper.mk (some d) (.slice t x none none none) ty pos af none) (.os i off m) := q6 fun I ρ h => by
 have h2 := h.ev x
 rw [hx] at h2
 obtain ⟨b, c, e1, e2⟩ := h2
 refine ⟨.slice (some ⟨b, off, none⟩) m m, ⟨b, c, e1, Z⟩, fun w=>?_⟩
 simp [execOp, Instr.sliceAt, Instr.sliceBounds, Sem.run_bind, run_underlying ht, hs, e2, Instr.sureAddr, hm, Addr.add]
theorem repI_map {I : G} {k : IntKind} {a : Option Addr} : ∀ {xs : List Int} {j : Nat}, RepR I 1 a j (xs.map fun x => [.int k x]) → ∀ (i : Nat) (x : Int), xs[i]? = some x → ∃ b off, a = some ⟨b, off, none⟩ ∧ KAt I.k b (off + (j + i)) (.int k x) := fun {xs j} h i x hx => by
 obtain ⟨b, off, vs, ea, h1, ⟨v, us, e, h2, h3⟩, h4⟩ := h.get (j := i) (r := [.int k x]) (by rw [ql, hx]; rfl)
 have h2 : v = .int k x := h2
 subst e h2
 have := h4 0 _ rfl
 rw [Nat.mul_one, Nat.add_zero] at this
 exact ⟨b, off, ea, this⟩
theorem AOps.copyA {i off m : Nat} {T : TypeId} {k : IntKind} {xs : List Int} {cs new : List AV} {ty2 : TypeId} (ht : P.underlying t = some (.slice e)) (hs : ∀ w, (sizeOf e).run P w = .ok 1 w) (hx : aev env x = .os i off m) (hy : aev env y = .fro 1 (xs.map fun x => [.int k x])) (hl : xs.length ≤ m)
  (hO : Put O i (.cells T cs) (.cells T new) O') (hb : off + xs.length ≤ cs.length) (hnew : cs.take off ++ xs.map (AV.int k) ++ cs.drop (off + xs.length) = new) (kk : AOps P E ops K rest (aupd env d (.int .i64 xs.length)) O') :
  AOps P E ops K (Oper.mk (some d) (.call { callee := .builtin .copy, args := #[x, y], argTypes := #[t, ty2] }) ty pos af none :: rest) env O := fun I F ρ w h1 h2 => by
 obtain ⟨htop, L, hL, hS⟩ := h2
 have h3 := h1.ev x
 rw [hx] at h3
 obtain ⟨b, c, e1, ex⟩ := h3
 have h4 := h1.ev y
 rw [hy] at h4
 obtain ⟨a, q, c2, ey, hq, hqc, hnil, hr⟩ := h4
 rw [qk] at hq
 subst hq
 obtain ⟨A, B, hp, ⟨b', c', vs, e2, h6, h6c, rfl⟩, hback⟩ := hO.rep hL
 rw [e1] at e2; cases e2
 have hS2 : SL I.k ((b, .cells vs.toArray T (0, 0)) :: (B ++ F)) E w := hS.perm ((hp.append_right F).symm)
 have hvl := h6.length
 have hmin : Nat.min xs.length m = xs.length := Nat.min_eq_left hl
 have hst := run_storeRow (P := P) (w := w) (b := b) (off := off) (n := xs.length) (T := T) (old := vs) (vs := xs.map (Value.int k)) (by simp) (fun u hu => by obtain ⟨_, _, rfl⟩ := List.mem_map.1 hu; rfl) (by omega) (hS2.own _ (.head _))
 have hfc : ((Builtin.firstCells 1 xs.length (.slice a xs.length c2)).run P w) = .ok (xs.map (Value.int k)).toArray w := by
  cases a with
  | none =>
   have := hnil rfl
   have h0 : xs = [] := qn (by omega)
   subst h0
   simp [Builtin.firstCells]
  | some p =>
   cases hxs : xs with
   | nil => simp [Builtin.firstCells, loadCells, loadCellsFrom]
   | cons x0 xs0 =>
    obtain ⟨b2, off2, ep, _⟩ := repI_map hr 0 x0 (by rw [hxs]; rfl)
    cases ep
    have := run_loadCells_list (P := P) w (⟨b2, off2, none⟩ : Addr) (xs.map (Value.int k)) (fun j v hj => by
     rw [ql] at hj
     obtain ⟨z, hz, rfl⟩ := Option.map_eq_some_iff.1 hj
     obtain ⟨b3, off3, ep, hk⟩ := repI_map hr j z hz
     cases ep
     rw [addr_add]
     rw [Nat.zero_add] at hk
     exact hS.at_ (hk.at_ _))
    rw [← hxs]
    simp only [Builtin.firstCells, Nat.mul_one]
    rw [qk] at this
    exact this
 refine Ops.step Z ?_
 unfold OpW
 have : (execOp (Go.Proofs.YtbkgklpihnfnjaaGreatDoor.ev ρ) (Oper.mk (some d) (.call { callee := .builtin .copy, args := #[x, y], argTypes := #[t, ty2] }) ty pos af none)).run P w = .ok (.value (.int .i64 xs.length)) (w.setRow b (vs.take off ++ xs.map (Value.int k) ++ vs.drop (off + xs.length)).toArray) := by
  simp [execOp, resolve, ex, ey, invoke, builtin, Builtin.copy_, run_underlying ht, hs, Builtin.lenOf, hmin, hfc, hst, goInt, Result.andThen]
 rw [this]
 have hints : RepL I (xs.map (AV.int k)) (xs.map (Value.int k)) := by
  clear hnew hr hl hb hmin hst hfc this ey hqc kk hy
  induction xs with
  | nil => rfl
  | cons z zs ih => exact ⟨_, _, rfl, rfl, ih⟩
 have hnr : RepL I new (vs.take off ++ xs.map (Value.int k) ++ vs.drop (off + xs.length)) := hnew ▸ ((h6.take off).append hints).append (h6.drop (off + xs.length))
 obtain ⟨L', h7, h8⟩ := hback (qa I) (A' := [(b, .cells (vs.take off ++ xs.map (Value.int k) ++ vs.drop (off + xs.length)).toArray T (0, 0))]) ⟨b, c, _, e1, hnr, by
  intro u hu
  simp only [List.mem_append] at hu
  rcases hu with (hu | hu) | hu
  ·exact h6c u (List.mem_of_mem_take hu)
  ·obtain ⟨_, _, rfl⟩ := List.mem_map.1 hu; rfl
  ·exact h6c u (List.mem_of_mem_drop hu), rfl⟩
 exact kk I F _ _ (h1.upd d rfl) ⟨htop, L', h7, (hS2.turn1).perm (h8.append_right F)⟩
end
end Go.Proofs.YtbkgklpihnfnjaaGreatDoor
namespace Go.Proofs.YtbkgklpihnfnjaaGreatDoor
section
variable {E : World} {P : Program} {env : AEnv} {O : OL} {d ty : Nat} {pos : String} {af : Array Edge} {x : Operand} {t u : TypeId}
theorem Gv.neqNilT {T : TypeId} {v : AV} (ht : P.underlying t = some (.interface (P.methodsAt t))) (hx : aev env x = .ifc T v) : Gv P env O (Oper.mk (some d) (.binOp .neq t x (.const .nilIface) u) ty pos af none) (.bool true) := q6 fun I ρ h => by
 have h1 := h.ev x
 rw [hx] at h1
 obtain ⟨w0, e, _⟩ := h1
 exact ⟨_, rfl, fun w => by
  have e2 : Go.Proofs.YtbkgklpihnfnjaaGreatDoor.ev ρ (.const .nilIface) = .nilIface := rfl
  simp only [execOp, e, e2]; simp [eqGuard, run_neq_held_nil _ _ _ _ ht]⟩
theorem Gv.neqNilF (ht : P.underlying t = some (.interface (P.methodsAt t))) (hx : aev env x = .raw .nilIface) : Gv P env O (Oper.mk (some d) (.binOp .neq t x (.const .nilIface) u) ty pos af none) (.bool false) := q6 fun I ρ h => by
 have h1 := evRaw h hx
 exact ⟨_, rfl, fun w => by
  have e2 : Go.Proofs.YtbkgklpihnfnjaaGreatDoor.ev ρ (.const .nilIface) = .nilIface := rfl
  simp only [execOp, h1, e2]; simp [eqGuard, run_neq_nil_nil _ _ ht]⟩
end
end Go.Proofs.YtbkgklpihnfnjaaGreatDoor
namespace Go.Proofs.YtbkgklpihnfnjaaGreatDoor
section
variable {E : World} {P : Program} {ops : Array Oper} {K : AEnv → OL → Prop} {env : AEnv} {O O' O'' : OL} {rest : List Oper} {n : Nat}
variable {d ty : Nat} {pos : String} {af : Array Edge} {x y z : Operand} {t u e : TypeId}
theorem drop_last {A row : List AV} {j : Nat} {c : AV} (h : row[j]? = some c) : (A ++ row).drop (A.length + j) = c :: row.drop (j + 1) := by
 obtain ⟨hj, rfl⟩ := List.getElem?_eq_some_iff.1 h
 rw [List.drop_append, List.drop_eq_nil_of_le (by omega), Nat.add_sub_cancel_left, List.nil_append]
 exact List.drop_eq_getElem_cons hj
theorem set_last {A row : List AV} {j : Nat} {c : AV} : (A ++ row).set (A.length + j) c = A ++ row.set j c := by
 rw [List.set_append_right _ _ (by omega), Nat.add_sub_cancel_left]
theorem get_last {A row : List AV} {j : Nat} : (A ++ row)[A.length + j]? = row[j]? := by
 rw [List.getElem?_append_right (by omega), Nat.add_sub_cancel_left]
theorem Gv.loadL {i off j k : Nat} {T : TypeId} {c : AV} {A row : List AV} (ha : ∀ w, (isAgg t).run P w = .ok false w) (hx : aev env x = .po i off) (hoff : off = A.length + j) (hO : Has O i (.grow k T (A ++ row))) (hv : row[j]? = some c) :
  Gv P env O (Oper.mk (some d) (.load t x) ty pos af none) c := Gv.load1G ha hx hO (by subst hoff; exact drop_last hv)
theorem AOps.storeL {i off j m k : Nat} {T : TypeId} {v : AV} {A row l new : List AV} (hs : ∀ w, (sizeOf t).run P w = .ok m w) (hx : aev env x = .po i off) (hoff : off = A.length + j) (hy : aev env y = v) (hv : v.sto = true) (hl : v.cs = l) (hl1 : l.all AV.cell = true) (hn : l.length = m)
  (hO : Put O i (.grow k T (A ++ row)) (.grow k T (A ++ new)) O') (hb : Nat.ble (j + m) row.length = true) (hm : Nat.ble 1 m = true) (hnew : row.take j ++ l ++ row.drop (j + m) = new) (kk : AOps P E ops K rest env O') : AOps P E ops K (Oper.mk none (.store t x y) ty pos af none :: rest) env O :=
 AOps.storeG hs hx hy hv hl hl1 hn hO (by have := Nat.le_of_ble_eq_true hb; rw [qj]; omega) (Nat.le_of_ble_eq_true hm) (by
  have := Nat.le_of_ble_eq_true hb
  subst hoff hnew
  rw [List.take_append, List.take_of_length_le (by omega : A.length ≤ A.length + j), Nat.add_sub_cancel_left, List.drop_append, List.drop_eq_nil_of_le (by omega : A.length ≤ A.length + j + m), Nat.add_assoc, Nat.add_sub_cancel_left]
  simp) kk
theorem Gv.idxOL {i n k j r : Nat} {a : Int} {T : TypeId} {cs : List AV} (ht : P.underlying t = some (.slice e)) (hs : ∀ w, (sizeOf e).run P w = .ok k w) (hx : aev env x = .own i n) (hy : aev env y = .int .i64 a) (hi : a = (j : Int)) (hO : Has O i (.grow k T cs)) (hne : cs ≠ []) (hj : j < n) (hr : j * k = r) :
  Gv P env O (Oper.mk (some d) (.indexAddr t x y) ty pos af none) (.po i r) := hr ▸ Gv.idxO ht hs hx hy hi hO hne hj
theorem know2 {I : G} {F : List (Nat × Obj)} {E w : World} {i k m : Nat} {T : TypeId} {rows : List (List AV)} (hO : Pick O i (.grow k T rows.flatten) O') (hk : ∀ r ∈ rows, r.length = k) (hk0 : 0 < k) (hm : rows.length = m) (h : SLA I O F E w) :
  ∃ J B, I.le J ∧ RepOs I O' B ∧ (∃ top, ∀ i, top ≤ i → J.h i = none) ∧ SL J.k (B ++ F) E w ∧ ∀ v, RepV I (.own i m) v → RepV J (.fro k rows) v := by
 obtain ⟨ht, L, hL, hS⟩ := h
 obtain ⟨A, B, hp, ⟨b, c, n, vs, e1, hvs, hvc, hown⟩, hB⟩ := hO.rep hL
 simp only at e1
 have hS2 : SL I.k (A ++ (B ++ F)) E w := hS.perm (by rw [← qf]; exact (hp.append_right F).symm)
 have hflat : rows.flatten.length = rows.length * k := flat_len hk
 have hnm : n = m := by
  have h5 := hown.1
  have h6 := hvs.length
  have : n * k = m * k := by rw [← hm]; omega
  exact Nat.eq_of_mul_eq_mul_right hk0 this
 subst hnm
 obtain ⟨h5, h6, h7⟩ := hown
 rcases h7 with ⟨ea, rfl, rfl⟩ | ⟨b', junk, ea, rfl, hj⟩
 ·refine ⟨I, B, .refl _, hB, ht, by simpa using hS2, ?_⟩
  rintro v ⟨b2, c2, e2, rfl⟩
  rw [e1] at e2
  simp only [Option.some.injEq, Prod.mk.injEq] at e2
  obtain ⟨rfl, rfl⟩ := e2
  have h0 : rows = [] := qn (by omega)
  subst h0
  exact ⟨adr b, n, 0, rfl, hm.symm, h6, fun _ => rfl, trivial⟩
 ·cases b with
  | none => simp [adr] at ea
  | some b =>
   simp [adr] at ea
   subst ea
   obtain ⟨hl, hS3⟩ := SL.freeze (by simpa using hS2 : SL I.k ((b, .cells (vs ++ junk).toArray T (0, 0)) :: (B ++ F)) E w)
   let J : G := ⟨I.k.put b (.cells (vs ++ junk).toArray T (0, 0)), I.h⟩
   have hle : I.le J := ⟨hl, fun _ _ h => h⟩
   have hb : J.k b = some (.cells (vs ++ junk).toArray T (0, 0)) := Ghost.put_same _ _ _
   refine ⟨J, B, hle, hB, ht, hS3, ?_⟩
   rintro v ⟨b2, c2, e2, rfl⟩
   rw [e1] at e2
   simp only [Option.some.injEq, Prod.mk.injEq] at e2
   obtain ⟨rfl, rfl⟩ := e2
   refine ⟨adr (some b), n, c, Z, hm.symm, h6, fun h => by simp [adr] at h, RepR.of_flat hb rows vs 0 hk (RepL.mono hle _ _ hvs) fun i u hu => ?_⟩
   rw [Nat.zero_mul, Nat.zero_add, List.getElem?_toArray, List.getElem?_append_left (List.getElem?_eq_some_iff.1 hu).1]
   exact hu
theorem Put.sameL {I J : G} {j off k : Nat} {T : TypeId} {A row : List AV} {x y : AV} (hle : I.le J) (hp : Put O j (.grow k T (A ++ row)) (.grow k T (A ++ row.set off y)) O') (hc : row[off]? = some x) (hxy : ∀ v, RepV I x v → RepV J y v)
  {L : List (Nat × Obj)} (hL : RepOs I O L) : ∃ L', RepOs J O' L' ∧ L.Perm L' := by
 obtain ⟨A1, B, hp1, ⟨b, c, n, vs, e1, hvs, hvc, hown⟩, hback⟩ := hp.rep hL
 obtain ⟨L', h1, h2⟩ := hback hle (A' := A1) ⟨b, c, n, vs, hle.h _ _ e1, by
  have := hvs.same hle (off := A.length + off) (x := x) (y := y) (by rw [get_last]; exact hc) hxy
  rwa [set_last] at this, hvc, hown⟩
 exact ⟨L', h1, hp1.trans h2.symm⟩
theorem GStep.knowL {j off i k k' m : Nat} {T T' : TypeId} {A row : List AV} {rows : List (List AV)} (hO : Pick O i (.grow k T rows.flatten) O') (hP : Put O' j (.grow k' T' (A ++ row)) (.grow k' T' (A ++ row.set off (.fro k rows))) O'') (hc : row[off]? = some (.own i m))
  (hk : ∀ r ∈ rows, r.length = k) (hk0 : 0 < k) (hm : rows.length = m) : GStep E env O env O'' := fun I F ρ w h1 h2 => by
 obtain ⟨J, B, hle, hB, ht, hS, h4⟩ := know2 hO hk hk0 hm h2
 obtain ⟨L', h5, h6⟩ := Put.sameL hle hP hc h4 hB
 exact ⟨J, hle, h1.mono hle, ht, L', h5, hS.perm (h6.symm.append_right F).symm.symm⟩
theorem GStep.impL {j off k : Nat} {T : TypeId} {A row : List AV} {x y : AV} (hP : Put O j (.grow k T (A ++ row)) (.grow k T (A ++ row.set off y)) O') (hc : row[off]? = some x) (hxy : ∀ I v, RepV I x v → RepV I y v) : GStep E env O env O' := fun I F ρ w h1 h2 => by
 obtain ⟨ht, L, hL, hS⟩ := h2
 obtain ⟨L', h5, h6⟩ := Put.sameL (.refl I) hP hc (hxy I) hL
 exact ⟨I, .refl _, h1, ht, L', h5, hS.perm (h6.symm.append_right F)⟩
theorem GStep.impC {j off : Nat} {T : TypeId} {cs : List AV} {x y : AV} (hP : Put O j (.cells T cs) (.cells T (cs.set off y)) O') (hc : cs[off]? = some x) (hxy : ∀ I v, RepV I x v → RepV I y v) : GStep E env O env O' := fun I F ρ w h1 h2 => by
 obtain ⟨ht, L, hL, hS⟩ := h2
 obtain ⟨L', h5, h6⟩ := Put.same (F := F) (E := E) (w := w) (.refl I) (.inr trivial) hP hc (hxy I) hL
 exact ⟨I, .refl _, h1, ht, L', h5, hS.perm (h6.symm.append_right F)⟩
theorem nil_fro (k : Nat) (I : G) (v : Value) (h : RepV I (.raw (.slice none 0 0)) v) : RepV I (.fro k []) v := ⟨none, 0, 0, h, rfl, Nat.le_refl _, fun _ => rfl, trivial⟩
theorem adoptL_wp {j off k k' : Nat} {T T' : TypeId} {A row : List AV} {c : Code} {Q : Exit → AEnv → OL → Prop} {f : Nat → OL} (hP : ∀ i, Put O j (.grow k' T' (A ++ row)) (.grow k' T' (A ++ row.set off (.own i 0))) (f i)) (hc : row[off]? = some (.raw (.slice none 0 0)))
  (h : ∀ i, AWP P E n c Q env ((i, .grow k T []) :: f i)) : AWP P E n c Q env O := fun I F ρ w h1 h2 => by
 obtain ⟨i, hi⟩ := h2.name
 obtain ⟨J, e1, hle, e2, htop⟩ := hi (none, 0)
 obtain ⟨_, L, hL, hS⟩ := h2
 obtain ⟨L', h3, h4⟩ := Put.sameL hle (hP i) hc (fun v hv => ⟨none, 0, e2, hv⟩) hL
 exact (h i J F ρ w (h1.mono hle) ⟨htop, _, ⟨[], L', rfl, ⟨none, 0, 0, [], e2, rfl, by simp, OwnS.nil k T⟩, h3⟩, by rw [e1]; exact hS.perm (h4.symm.append_right F)⟩).mono fun _ _ _ => postE.up hle
theorem GStep.eq (h : O = O') : GStep E env O env O' := fun I F ρ w h1 h2 => ⟨I, .refl _, h1, h ▸ h2⟩
theorem fresh_wp {k : Nat} {T : TypeId} {c : Code} {Q : Exit → AEnv → OL → Prop} (h : ∀ i, AWP P E n c Q env ((i, .grow k T []) :: O)) : AWP P E n c Q env O := fun I F ρ w h1 h2 => by
 obtain ⟨i, hi⟩ := h2.name
 obtain ⟨J, e1, hle, e2, htop⟩ := hi (none, 0)
 obtain ⟨_, L, hL, hS⟩ := h2
 exact (h i J F ρ w (h1.mono hle) ⟨htop, _, ⟨[], L, rfl, ⟨none, 0, 0, [], e2, rfl, by simp, OwnS.nil k T⟩, hL.mono hle⟩, by rw [e1]; exact hS⟩).mono fun _ _ _ => postE.up hle
end
section
variable {P : Program} {E : World} {l : List Oper} {W : Nat → Bool} {fuel : Nat} {listed : Array Bool} {d ty : Nat} {op : Op} {pos : String} {af : Array Edge}
theorem AnyV.takeU {S0 S : World → Prop} {Q : Env → World → Prop} {ρ : Env} {w : World} {i j s : Nat} {b : Bool} (hi : l[i]? = some (Oper.mk (some d) op ty pos af (some (j, b)))) (hg : (l[j]?).bind (fun o : Oper => o.dst) = some s) (hv : ρ s = undef) (hs : Region.noSelect l.toArray = true) (hf : Region.free .any l.toArray listed i = true)
  (hr : (Region.ready .any l.toArray listed).contains i = true) (hW : waitsB l i W = true) (hWi : W i = false) (hcl : cleanB W listed = true) (hS0 : S0 w) (hS : S w)
  (h : AnyV P l.toArray S0 S W Q fuel (listed.setIfInBounds i true) (upd ρ d undef) w) : AnyV P l.toArray S0 S W Q (fuel + 1) listed ρ w :=
 AnyV.first (oi := Oper.mk (some d) op ty pos af (some (j, b))) (by simpa using hi) (Region.noSelect_spec hs) (Sx := S) (C := fun listed => ¬ dirty W listed) hWi (waits_clean hW) (fun _ _ h1 _ h2 => h2.resolve_left h1) fuel listed ρ w (Region.free_spec (by simpa using hi) hf) (by simpa using hr)
  (.inr ⟨by simp only [wantedE, List.getElem?_toArray, hg, hv]; simp [undef], rfl⟩) (cleanB_spec hcl) hS0 (.inr hS) h
theorem AAny.takeU {Q : AEnv → OL → Prop} {env : AEnv} {Os Om : OL} {i j s : Nat} {b : Bool} (hi : l[i]? = some (Oper.mk (some d) op ty pos af (some (j, b)))) (hg0 : (l[j]?).bind (fun o : Oper => o.dst) = some s) (hv0 : env s = .raw undef) (hs : Region.noSelect l.toArray = true) (hf : Region.free .any l.toArray listed i = true)
  (hr : (Region.ready .any l.toArray listed).contains i = true) (hW : waitsB l i W = true) (hWi : W i = false) (hcl : cleanB W listed = true)
  (h : AAny P E l W Q fuel (listed.setIfInBounds i true) (aupd env d (.raw undef)) Os Om) : AAny P E l W Q (fuel + 1) listed env Os Om := fun I F ρ w Ls h1 hLs h2 =>
 AnyV.takeU hi hg0 (by have := h1 s; rw [hv0] at this; exact this) hs hf hr hW hWi hcl h2.here.less h2.here (h I F _ w Ls (h1.upd d rfl) hLs h2)
theorem AnyV.takeKT {S0 S : World → Prop} {Q : Env → World → Prop} {ρ : Env} {w : World} {i j s : Nat} {b t : Bool} {v : Value} (hi : l[i]? = some (Oper.mk (some d) op ty pos af (some (j, b)))) (hg : (l[j]?).bind (fun o : Oper => o.dst) = some s) (hv : ρ s = .bool t) (ht : t = b) (hs : Region.noSelect l.toArray = true) (hf : Region.free .any l.toArray listed i = true)
  (hr : (Region.ready .any l.toArray listed).contains i = true) (hWi : W i = false) (hS0 : S0 w) (hS : dirty W listed ∨ S w) (hy : ∀ w, S0 w → (execOp (ev ρ) (Oper.mk (some d) op ty pos af none)).run P w = .ok (.value v) w)
  (h : AnyV P l.toArray S0 S W Q fuel (listed.setIfInBounds i true) (upd ρ d v) w) : AnyV P l.toArray S0 S W Q (fuel + 1) listed ρ w :=
 AnyV.first (oi := Oper.mk (some d) op ty pos af (some (j, b))) (by simpa using hi) (Region.noSelect_spec hs) (Sx := S0) (C := fun _ => True) hWi (fun _ _ _ _ _ _ _ => trivial) (fun _ _ _ h _ => h) fuel listed ρ w (Region.free_spec (by simpa using hi) hf) (by simpa using hr)
  (.inl ⟨by simp only [wantedE, List.getElem?_toArray, hg, hv, ht]; simp, hy⟩) trivial hS0 hS h
theorem AnyV.takeKF {S0 S : World → Prop} {Q : Env → World → Prop} {ρ : Env} {w : World} {i j s : Nat} {b t : Bool} (hi : l[i]? = some (Oper.mk (some d) op ty pos af (some (j, b)))) (hg : (l[j]?).bind (fun o : Oper => o.dst) = some s) (hv : ρ s = .bool t) (ht : t = !b) (hs : Region.noSelect l.toArray = true) (hf : Region.free .any l.toArray listed i = true)
  (hr : (Region.ready .any l.toArray listed).contains i = true) (hWi : W i = false) (hS0 : S0 w) (hS : dirty W listed ∨ S w)
  (h : AnyV P l.toArray S0 S W Q fuel (listed.setIfInBounds i true) (upd ρ d undef) w) : AnyV P l.toArray S0 S W Q (fuel + 1) listed ρ w :=
 AnyV.first (oi := Oper.mk (some d) op ty pos af (some (j, b))) (by simpa using hi) (Region.noSelect_spec hs) (Sx := S0) (C := fun _ => True) hWi (fun _ _ _ _ _ _ _ => trivial) (fun _ _ _ h _ => h) fuel listed ρ w (Region.free_spec (by simpa using hi) hf) (by simpa using hr)
  (.inr ⟨by simp only [wantedE, List.getElem?_toArray, hg, hv, ht]; cases b <;> simp, rfl⟩) trivial hS0 hS h
theorem AAny.takeKT {Q : AEnv → OL → Prop} {env : AEnv} {Os Om : OL} {i j s : Nat} {b t : Bool} {x : AV} (hi : l[i]? = some (Oper.mk (some d) op ty pos af (some (j, b)))) (hg0 : (l[j]?).bind (fun o : Oper => o.dst) = some s) (hv0 : env s = .bool t) (ht : t = b) (hs : Region.noSelect l.toArray = true) (hf : Region.free .any l.toArray listed i = true)
  (hr : (Region.ready .any l.toArray listed).contains i = true) (hWi : W i = false) (hg : Gv P env [] (Oper.mk (some d) op ty pos af none) x)
  (h : AAny P E l W Q fuel (listed.setIfInBounds i true) (aupd env d x) Os Om) : AAny P E l W Q (fuel + 1) listed env Os Om := fun I F ρ w Ls h1 hLs h2 => by
 obtain ⟨v, hv, hrun⟩ := hg I [] E ρ h1 rfl
 exact AnyV.takeKT hi hg0 (by have := h1 s; rw [hv0] at this; exact this) ht hs hf hr hWi h2.here.less (.inr h2.here) (fun w ⟨J, L', a, b, c⟩ => hrun w J L' a b c) (h I F _ w Ls (h1.upd d hv) hLs h2)
theorem AAny.takeKF {Q : AEnv → OL → Prop} {env : AEnv} {Os Om : OL} {i j s : Nat} {b t : Bool} (hi : l[i]? = some (Oper.mk (some d) op ty pos af (some (j, b)))) (hg0 : (l[j]?).bind (fun o : Oper => o.dst) = some s) (hv0 : env s = .bool t) (ht : t = !b) (hs : Region.noSelect l.toArray = true) (hf : Region.free .any l.toArray listed i = true)
  (hr : (Region.ready .any l.toArray listed).contains i = true) (hWi : W i = false)
  (h : AAny P E l W Q fuel (listed.setIfInBounds i true) (aupd env d (.raw undef)) Os Om) : AAny P E l W Q (fuel + 1) listed env Os Om := fun I F ρ w Ls h1 hLs h2 =>
 AnyV.takeKF hi hg0 (by have := h1 s; rw [hv0] at this; exact this) ht hs hf hr hWi h2.here.less (.inr h2.here) (h I F _ w Ls (h1.upd d rfl) hLs h2)
end
theorem GStep.knowP {E : World} {env : AEnv} {O O' : OL} {t i : Nat} {T : TypeId} {cs : List AV} (hv : env t = .po i 0) (hO : Pick O i (.cells T cs) O') : GStep E env O (aupd env t (.pf cs)) O' := fun I F ρ w h1 ⟨ht, L, hL, hS⟩ => by
 obtain ⟨A, B, hp, ⟨b, c, vs, e1, hvs, hvc, rfl⟩, hB⟩ := hO.rep hL
 simp only at e1
 have hS2 : SL I.k ((b, .cells vs.toArray T (0, 0)) :: (B ++ F)) E w := hS.perm ((hp.append_right F).symm)
 obtain ⟨hl, hS3⟩ := SL.freeze hS2
 let J : G := ⟨I.k.put b (.cells vs.toArray T (0, 0)), I.h⟩
 have hle : I.le J := ⟨hl, fun _ _ h => h⟩
 refine ⟨J, hle, fun s=>?_, ht, B, hB.mono hle, hS3⟩
 unfold aupd
 cases hb : Nat.beq s t with
 | false => exact RepV.mono hle _ _ (h1 s)
 | true =>
  have : s = t := Nat.eq_of_beq_eq_true hb
  subst this
  have h2 := h1 s
  rw [hv] at h2
  obtain ⟨b2, c2, e2, e3⟩ := h2
  rw [e1] at e2
  simp only [Option.some.injEq, Prod.mk.injEq] at e2
  obtain ⟨rfl, rfl⟩ := e2
  exact ⟨b, 0, vs, e3, RepL.mono hle _ _ hvs, fun j u hj => ⟨_, _, _, Ghost.put_same _ _ _, by rw [Nat.zero_add, List.getElem?_toArray]; exact hj⟩⟩
end Go.Proofs.YtbkgklpihnfnjaaGreatDoor
namespace Go.Proofs.YtbkgklpihnfnjaaGreatDoor
section
variable {E : World} {P : Program} {ops : Array Oper} {K : AEnv → OL → Prop} {env : AEnv} {O O' : OL} {rest : List Oper}
variable {d ty : Nat} {pos : String} {af : Array Edge} {x y z : Operand} {t u e : TypeId}
theorem zeroCells_mem {zero : Array Value} {n : Nat} {v : Value} (h : v ∈ (Builtin.zeroCells zero n).toList) : v ∈ zero.toList := by
 unfold Builtin.zeroCells at h
 rw [Array.toList_map, Array.toList_range] at h
 obtain ⟨i, hi, rfl⟩ := List.mem_map.1 h
 have hi := List.mem_range.1 hi
 have hz : 0 < zero.size := by
  rcases Nat.eq_zero_or_pos zero.size with h0 | h0
  ·rw [h0, Nat.mul_zero] at hi; omega
  ·exact h0
 have hlt : i % zero.size < zero.size := Nat.mod_lt _ hz
 rw [getElem!_pos zero _ hlt]
 exact Array.mem_toList_iff.2 (Array.getElem_mem hlt)
theorem Gv.capN (ht : P.underlying t = some (.slice e)) (hx : aev env x = .raw (.slice none 0 0)) : Gv P env O (Oper.mk (some d) (.call { callee := .builtin .cap, args := #[x], argTypes := #[t] }) ty pos af none) (.int .i64 0) := q6 fun I ρ h => ⟨_, rfl, fun w => by
 simp [execOp, resolve, evRaw h hx, invoke, builtin, Builtin.cap_, run_underlying ht, goInt]⟩
theorem Gv.cutN {k : Nat} (ht : P.underlying t = some (.slice e)) (hs : ∀ w, (sizeOf e).run P w = .ok k w) (hx : aev env x = .raw (.slice none 0 0)) (hy : aev env y = .int .i64 0) : Gv P env O (Oper.mk (some d) (.slice t x none (some y) none) ty pos af none) (.raw (.slice none 0 0)) := q6 fun I ρ h => ⟨_, rfl, fun w => by
 simp [execOp, Instr.sliceAt, Instr.slice, Instr.sliceBounds, Instr.sliceBound, asIntOf, Sem.run_bind, run_underlying ht, hs, evRaw h hx, evI h hy]⟩
theorem AOps.appendZ {ti : TypeInfo} {zv : Value} {k n : Nat} {kn : IntKind} (ht : P.underlying t = some (.slice e)) (htu : P.underlying u = some (.int kn)) (hi : P.info? e = some ti) (hz : ti.zero = some zv) (hk : ti.size = k) (hzc : zv.cells.size = k) (hz1 : zv.cells.toList.all Value.oneCell' = true)
  (hx : aev env x = .raw (.slice none 0 0)) (hy : aev env y = .int .i64 n) (h0 : 0 < n) (hk0 : 0 < k) (hb : n * ti.bytes ≤ 140737488355328) (hb2 : n ≤ 140737488355328)
  (kk : ∀ j cs, AOps P E ops K rest (aupd env d (.own j n)) ((j, .grow k e cs) :: O)) :
  AOps P E ops K (Oper.mk (some d) (.call { callee := .builtin .append, args := #[x, y], argTypes := #[t, u] }) ty pos af none :: rest) env O := fun I F ρ w h1 h2 => by
 obtain ⟨htop, L, hL, hS⟩ := id h2
 have ex := evRaw h1 hx
 have ey := evI h1 hy
 have hrun := Go.Lib.run_append_nil_zeros (P := P) w t u ty e ti zv .i64 kn ht htu hi hz n h0 (by omega) (by omega) (by omega)
 have hcapge := grownCap_ge w n 0 e
 obtain ⟨vs, hvs⟩ : ∃ vs, (Builtin.zeroCells zv.cells n).toList = vs := ⟨_, rfl⟩
 obtain ⟨junk, hjunk⟩ : ∃ junk, (Builtin.zeroCells zv.cells (grownCap w n 0 e - n)).toList = junk := ⟨_, rfl⟩
 have hvl : vs.length = n * k := by rw [← hvs, Array.length_toList, size_zeroCells, hzc]
 have hjl : junk.length = (grownCap w n 0 e - n) * k := by rw [← hjunk, Array.length_toList, size_zeroCells, hzc]
 have harr : Builtin.zeroCells zv.cells n ++ Builtin.zeroCells zv.cells (grownCap w n 0 e - n) = (vs ++ junk).toArray := by rw [← hvs, ← hjunk]; simp
 rw [harr] at hrun
 refine Ops.step Z ?_
 unfold OpW
 have : (execOp (Go.Proofs.YtbkgklpihnfnjaaGreatDoor.ev ρ) (Oper.mk (some d) (.call { callee := .builtin .append, args := #[x, y], argTypes := #[t, u] }) ty pos af none)).run P w = .ok (.value (.slice (some ⟨w.heap.size, 0, none⟩) n (grownCap w n 0 e))) (w.drew.alloc (.cells (vs ++ junk).toArray e)) := by
  simp [execOp, resolve, ex, ey, invoke, builtin, hrun, Result.andThen]
 rw [this]
 obtain ⟨j, hj⟩ := h2.name
 obtain ⟨J, ek, hle, e3, htop'⟩ := hj (some w.heap.size, grownCap w n 0 e)
 have hS2 : SL I.k ((w.heap.size, .cells (vs ++ junk).toArray e (0, 0)) :: (L ++ F)) E (w.drew.alloc (.cells (vs ++ junk).toArray e)) := hS.drew.alloc _
 refine yu (fun _ _ => postK.up hle) _ _ _ (kk j (vs.map lit) J F _ _ ((h1.mono hle).upd d ⟨some w.heap.size, _, e3, Z⟩) ⟨htop', _, ⟨[_], L, Z, ⟨some w.heap.size, _, n, vs, e3, lit_reps J vs, fun u hu => ?_, hvl, hcapge, .inr ⟨w.heap.size, junk, Z, Z, ?_⟩⟩, hL.mono hle⟩, by rw [ek]; exact hS2⟩)
 ·exact List.all_eq_true.1 hz1 u (zeroCells_mem (hvs ▸ hu))
 ·rw [qj, hvl, hjl, ← Nat.add_mul]; congr 1; omega
end
end Go.Proofs.YtbkgklpihnfnjaaGreatDoor
namespace Go.Proofs.YtbkgklpihnfnjaaGreatDoor
section
variable {P : Program} {env : AEnv} {O : OL}
variable {d ty : Nat} {pos : String} {af : Array Edge} {x y : Operand}
theorem Gv.minI {ts : Array TypeId} {k : IntKind} {a b : Int} (hx : aev env x = .int k a) (hy : aev env y = .int k b) : Gv P env O (Oper.mk (some d) (.call { callee := .builtin .min, args := #[x, y], argTypes := ts }) ty pos af none) (.int k (if b < a then b else a)) := q6 fun I ρ h => ⟨_, rfl, fun w => by
 simp [execOp, resolve, evI h hx, evI h hy, invoke, builtin, Builtin.min_, Builtin.min2, Result.andThen]⟩
end
end Go.Proofs.YtbkgklpihnfnjaaGreatDoor
namespace Go.Proofs.YtbkgklpihnfnjaaGreatDoor
open Go.Lib
section
variable {P : Program} {ops : Array Oper} {K : Env → World → Prop} {ρ : Env} {w : World} {rest : List Oper}
variable {d ty : Nat} {pos : String} {af : Array Edge} {x y z : Operand} {t u e : TypeId}
variable {I : Ghost} {O A : List (Nat × Obj)} {E : World}
theorem strCells_cell (s : ByteArray) : ∀ v ∈ strCells s, v.oneCell' = true := by
 intro v hv
 unfold strCells at hv
 obtain ⟨_, _, rfl⟩ := List.mem_map.1 hv; rfl
theorem run_appendT_SL {i : TypeInfo} {n cap : Nat} {a : Option Addr} {cs : List Value} (ht : P.underlying t = some (.slice e)) (hu : P.underlying u = some .string) (hi : P.info? e = some i) (hz : i.zero = some (.int .u8 0)) (hs1 : i.size = 1) (hby : i.bytes = 1)
  (hS : SL I (A ++ O) E w) (hA : OwnS 1 e a n cap cs A) (s : ByteArray) (hb : n + s.size ≤ 140737488355328) :
  ∃ a' cap' A' w', (Builtin.append_ #[t, u] ty #[.slice a n cap, .string s]).run P w = .ok (.slice a' (n + s.size) cap') w' ∧ OwnS 1 e a' (n + s.size) cap' (cs ++ strCells s) A' ∧ SL I (A' ++ O) E w' := by
 obtain ⟨hcl, hnc, hA⟩ := hA
 rw [Nat.mul_one] at hcl
 have hnl := strCells_length s
 rcases hA with ⟨rfl, rfl, rfl⟩ | ⟨b, junk, rfl, rfl, hjl⟩
 ·have hn0 : n = 0 := by omega
  subst hn0
  have hcs : cs = [] := qn (by simpa using hcl)
  subst hcs
  by_cases hm : s.size = 0
  ·have hn : strCells s = [] := qn (by rw [hnl]; exact hm)
   refine ⟨none, 0, [], w, ?_, by rw [hm, hn]; exact OwnS.nil _ _, hS⟩
   have hf := run_firstCells_string (P := P) w 1 s
   rw [hm] at hf
   simp [Builtin.append_, run_underlying ht, run_underlying hu, sizeOf, typeInfo, hi, hs1, Builtin.lenOf, hm, hf]
  ·have hr := run_append_nil_string (P := P) w t u ty e i (.int .u8 0) ht hu hi hz s (by omega) (by omega) (by rw [hby]; omega)
   have e1 : (s.data.map fun b => Value.int .u8 b.toNat) = (strCells s).toArray := by
    apply Array.ext'
    simp [strCells]
   rw [e1] at hr
   refine ⟨_, _, [(w.heap.size, .cells ((strCells s).toArray ++ Builtin.zeroCells (Value.int .u8 0).cells (grownCap w s.size 0 e - s.size)) e (0, 0))], _, by rw [Nat.zero_add]; exact hr, ⟨by simp [hnl], by rw [Nat.zero_add]; exact grownCap_ge _ _ _ _, .inr ⟨_, (Builtin.zeroCells (Value.int .u8 0).cells (grownCap w s.size 0 e - s.size)).toList, rfl, ?_, ?_⟩⟩, (hS.drew).alloc _⟩
   ·congr 2; congr 1; simp
   ·have := grownCap_ge w s.size 0 e
    have hz1 : (Value.int IntKind.u8 0).cells.size = 1 := rfl
    simp only [List.nil_append, qj, hnl, Array.length_toList, size_zeroCells, hz1]
    omega
 ·have hown := hS.own (b, .cells (cs ++ junk).toArray e (0, 0)) (by simp)
  simp only at hown
  have hjl' : cs.length + junk.length = cap := by simpa using hjl
  by_cases hroom : n + s.size ≤ cap
  ·have hrun := run_append_room_string (P := P) w t u ty e i ht hu hi hs1 b n cap (cs ++ junk).toArray hown s hroom (by simp; omega)
   have hshape : (List.take n (cs ++ junk).toArray.toList ++ strCells s ++ List.drop (n + s.size) (cs ++ junk).toArray.toList) = (cs ++ strCells s) ++ junk.drop s.size := by
    have e1 : n = cs.length := hcl.symm
    simp only [e1]
    rw [List.take_left, List.drop_append, List.drop_eq_nil_of_le (by omega : cs.length ≤ cs.length + s.size)]
    simp
   rw [hshape] at hrun
   refine ⟨_, _, [(b, .cells ((cs ++ strCells s) ++ junk.drop s.size).toArray e (0, 0))], _, hrun, ⟨by rw [qj, hcl, hnl, Nat.mul_one], hroom, .inr ⟨b, _, rfl, rfl, ?_⟩⟩, ?_⟩
   ·simp only [qj, List.length_drop]; omega
   ·refine SL.turn (w := w) hS rfl rfl rfl ?_ ?_
    ·simp [World.setRow, Array.getElem?_modify, hown]
    ·intro k hk
     simp only [World.setRow, Array.getElem?_modify]
     rw [if_neg (by omega)]
  ·have hrun := run_append_grow_string (P := P) w t u ty e i (.int .u8 0) ht hu hi hz ⟨b, 0, none⟩ n cap cs (by rw [hs1, Nat.mul_one]; exact hcl) (fun j v hj => by
    rw [addr_add, Nat.zero_add]
    refine hS.at_ (.inr ⟨_, _, _, List.mem_append_left _ (List.mem_singleton.2 Z), ?_⟩)
    have := (List.getElem?_eq_some_iff.1 hj).1
    rw [List.getElem?_toArray, List.getElem?_append_left this]; exact hj) s (by omega) (by omega) (by rw [hby]; exact growslice_fits (by omega) (by omega))
   refine ⟨_, _, [(w.heap.size, .cells (cs.toArray ++ (strCells s).toArray ++ Builtin.zeroCells (Value.int .u8 0).cells (grownCap w (n + s.size) cap e - (n + s.size))) e (0, 0))], _, hrun, ⟨by rw [qj, hcl, hnl, Nat.mul_one], grownCap_ge _ _ _ _, .inr ⟨_, (Builtin.zeroCells (Value.int .u8 0).cells (grownCap w (n + s.size) cap e - (n + s.size))).toList, rfl, ?_, ?_⟩⟩, ?_⟩
   ·congr 2; congr 1; simp
   ·have := grownCap_ge w (n + s.size) cap e
    have hz1 : (Value.int IntKind.u8 0).cells.size = 1 := rfl
    simp only [qj, hcl, hnl, Array.length_toList, size_zeroCells, hz1]
    omega
   ·have h2 := (hS.drew).alloc (.cells (cs.toArray ++ (strCells s).toArray ++ Builtin.zeroCells (Value.int .u8 0).cells (grownCap w (n + s.size) cap e - (n + s.size))) e (0, 0))
    refine h2.sub ?_
    exact List.Sublist.cons_cons _ (List.sublist_cons_self _ _)
end
def strAV (s : ByteArray) : List AV := s.data.toList.map fun b => .int .u8 b.toNat
theorem strAV_rep (I : G) (s : ByteArray) : RepL I (strAV s) (strCells s) := by
 unfold strAV strCells
 induction s.data.toList with
 | nil => rfl
 | cons b l ih => exact ⟨_, _, rfl, rfl, ih⟩
theorem strAV_len (s : ByteArray) : (strAV s).length = s.size := by
 have := (strAV_rep ⟨fun _ => none, fun _ => none⟩ s).length
 rw [← this, strCells_length]
theorem strAV_app (s u : ByteArray) : strAV (s ++ u) = strAV s ++ strAV u := by unfold strAV; rw [ByteArray.data_append]; simp
theorem strAV_un {I : G} {s : ByteArray} {vs : List Value} (h : RepL I (strAV s) vs) : vs = strCells s := by
 unfold strAV at h; unfold strCells
 generalize s.data.toList = l at h
 induction l generalizing vs with
 | nil => exact h
 | cons b l ih =>
  obtain ⟨v, us, rfl, h1, h2⟩ := h
  have h1 : v = .int .u8 b.toNat := h1
  rw [h1, ih h2]; rfl
section
variable {E : World} {P : Program} {ops : Array Oper} {K : AEnv → OL → Prop} {env : AEnv} {O O' : OL} {rest : List Oper}
variable {d ty : Nat} {pos : String} {af : Array Edge} {x y z : Operand} {t u e : TypeId}
theorem AOps.appendT {ti : TypeInfo} {n i : Nat} {cs : List AV} {s : ByteArray} {f : Nat → OL} (ht : P.underlying t = some (.slice e)) (hu : P.underlying u = some .string) (hi : P.info? e = some ti) (hz : ti.zero = some (.int .u8 0)) (hs1 : ti.size = 1) (hby : ti.bytes = 1)
  (hx : aev env x = .own i n) (hy : aev env y = .str s) (hO : ∀ j, Swp O i (.grow 1 e cs) j (.grow 1 e (cs ++ strAV s)) (f j)) (hn : cs.length = n) (hb : n + s.size ≤ 140737488355328)
  (kk : ∀ j, AOps P E ops K rest (aupd env d (.own j (n + s.size))) (f j)) :
  AOps P E ops K (Oper.mk (some d) (.call { callee := .builtin .append, args := #[x, y], argTypes := #[t, u] }) ty pos af none :: rest) env O := fun I F ρ w h1 h2 => by
 obtain ⟨htop, L, hL, hS⟩ := id h2
 have h3 := h1.ev x
 rw [hx] at h3
 obtain ⟨b, cap, e1, ex⟩ := h3
 have ey := evT h1 hy
 obtain ⟨j, hj⟩ := h2.name
 obtain ⟨A, B, hp, ⟨b', cap', n', us, e2, hus, huc, hown⟩, hback⟩ := (hO j).rep hL
 simp only at e2
 rw [e1] at e2
 simp only [Option.some.injEq, Prod.mk.injEq] at e2
 obtain ⟨rfl, rfl⟩ := e2
 have hnn : n' = n := by
  have h5 := hown.1
  have h6 := hus.length
  omega
 subst hnn
 have hS2 : SL I.k (A ++ (B ++ F)) E w := hS.perm (by rw [← qf]; exact (hp.append_right F).symm)
 obtain ⟨a', c', A', w', hrun, h5, h6⟩ := run_appendT_SL (ty := ty) ht hu hi hz hs1 hby hS2 hown s hb
 have hb' : ∃ b'', a' = adr b'' := by
  rcases h5.2.2 with ⟨e, _⟩ | ⟨b'', junk, e, _⟩
  ·exact ⟨none, e⟩
  ·exact ⟨some b'', e⟩
 obtain ⟨b'', rfl⟩ := hb'
 obtain ⟨J, ek, hle, e3, htop'⟩ := hj (b'', c')
 obtain ⟨L', h8, h9⟩ := hback hle (A' := A') ⟨b'', c', _, us ++ strCells s, e3, RepL.mono hle _ _ (hus.append (strAV_rep I s)), (by
  intro v hv
  rcases List.mem_append.1 hv with hv | hv
  ·exact huc v hv
  ·exact strCells_cell s v hv), h5⟩
 refine Ops.step Z ?_
 unfold OpW
 have : (execOp (Go.Proofs.YtbkgklpihnfnjaaGreatDoor.ev ρ) (Oper.mk (some d) (.call { callee := .builtin .append, args := #[x, y], argTypes := #[t, u] }) ty pos af none)).run P w = .ok (.value (.slice (adr b'') (n' + s.size) c')) w' := by
  simp [execOp, resolve, ex, ey, invoke, builtin, hrun]
 rw [this]
 exact yu (fun _ _ => postK.up hle) _ _ _ (kk j J F _ _ ((h1.mono hle).upd d ⟨b'', c', e3, rfl⟩) ⟨htop', L', h8, by rw [ek]; exact h6.perm (by rw [← qf]; exact h9.append_right F)⟩)
theorem Gv.eqlNilR (hp : P.underlying t = some (.pointer (P.pointee t))) (hx : aev env x = .raw (.pointer none)) : Gv P env O (Oper.mk (some d) (.binOp .eql t x (.const (.pointer none)) u) ty pos af none) (.bool true) := q6 fun I ρ h => by
 have h1 := evRaw h hx
 have e2 : Go.Proofs.YtbkgklpihnfnjaaGreatDoor.ev ρ (.const (.pointer none)) = .pointer none := rfl
 exact ⟨_, rfl, fun w => by simp only [execOp, h1, e2]; simp [eqGuard, run_eql_pointer_nil w t none hp]⟩
theorem Gv.eqlNilO {i off : Nat} (hp : P.underlying t = some (.pointer (P.pointee t))) (hx : aev env x = .po i off) : Gv P env O (Oper.mk (some d) (.binOp .eql t x (.const (.pointer none)) u) ty pos af none) (.bool false) := q6 fun I ρ h => by
 have h1 := h.ev x
 rw [hx] at h1
 obtain ⟨b, c, _, h1⟩ := h1
 have e2 : Go.Proofs.YtbkgklpihnfnjaaGreatDoor.ev ρ (.const (.pointer none)) = .pointer none := rfl
 exact ⟨_, rfl, fun w => by simp only [execOp, h1, e2]; simp [eqGuard, run_eql_pointer_nil w t _ hp]⟩
theorem Gv.neqPO {i off : Nat} {te : TypeId} {j : TypeInfo} (hp : P.underlying t = some (.pointer te)) (hte : P.info? te = some j) (hx : aev env x = .po i off) (hy : aev env y = .po i off) : Gv P env O (Oper.mk (some d) (.binOp .neq t x y u) ty pos af none) (.bool false) := q6 fun I ρ h => by
 have h1 := h.ev x
 have h2 := h.ev y
 rw [hx] at h1
 rw [hy] at h2
 obtain ⟨b, c, e1, h1⟩ := h1
 obtain ⟨b', c', e2, h2⟩ := h2
 rw [e1] at e2; cases e2
 exact ⟨_, rfl, fun w => by simp only [execOp, h1, h2]; simp [eqGuard, run_neq_ptr_same w ⟨b, off, none⟩ hp hte]⟩
theorem shape_of {w : World} {b : Nat} {c : Array Value} {T : TypeId} {f : Nat × Nat} (h : w.heap[b]? = some (.cells c T f)) : w.shape? b = some (T, c.size) := by simp [World.shape?, h]
theorem Gv.toUnsafe {src dst te T : TypeId} {j : TypeInfo} {i off : Nat} {cs : List AV} (hs : P.underlying src = some (.pointer te)) (hd : P.underlying dst = some .unsafePointer) (ht : P.info? te = some j) (hj : j.size ≠ 0)
  (hx : aev env x = .po i off) (hO : Has O i (.cells T cs)) (hoff : off < cs.length) : Gv P env O (Oper.mk (some d) (.convert src dst x) ty pos af none) (.po i off) := fun I L E ρ h hL => by
 have h1 := h.ev x
 rw [hx] at h1
 obtain ⟨b, c, e1, h1⟩ := h1
 obtain ⟨b', c', vs, e2, h4, hm⟩ := hO.cells hL
 rw [e1] at e2; cases e2
 refine ⟨_, ⟨b, c, e1, Z⟩, fun w J L' hl hS hin => ?_⟩
 have hw := hS.own _ (hin _ hm)
 simp only [execOp, h1]
 rw [Sem.run_bind, run_to_unsafe w ⟨b, off, none⟩ hs hd ht hj (shape_of hw) (by have := h4.length; simp; omega)]; rfl
theorem Gv.fromUnsafe {src dst te T : TypeId} {j : TypeInfo} {i off : Nat} {cs : List AV} (hs : P.underlying src = some .unsafePointer) (hd : P.underlying dst = some (.pointer te)) (ht : P.info? te = some j)
  (hx : aev env x = .po i off) (hO : Has O i (.cells T cs)) (hlies : liesAt P P.depth T (cs.length / P.cellsOf T) off te 1 = true) : Gv P env O (Oper.mk (some d) (.convert src dst x) ty pos af none) (.po i off) := fun I L E ρ h hL => by
 have h1 := h.ev x
 rw [hx] at h1
 obtain ⟨b, c, e1, h1⟩ := h1
 obtain ⟨b', c', vs, e2, h4, hm⟩ := hO.cells hL
 rw [e1] at e2; cases e2
 refine ⟨_, ⟨b, c, e1, Z⟩, fun w J L' hl hS hin => ?_⟩
 have hw := hS.own _ (hin _ hm)
 have hsz : vs.toArray.size = cs.length := by have := h4.length; simpa using this
 have hsh := shape_of hw
 rw [hsz] at hsh
 simp only [execOp, h1]
 rw [Sem.run_bind, run_from_unsafe w ⟨b, off, none⟩ hs hd ht hsh hlies]; rfl
theorem Gv.noEscape {f : FuncId} {fn : Func} {v : AV} {tys : Array TypeId} (hf : P.funcs[f]? = some fn) (hname : (fn.name == "runtime.NumGoroutine") = false) (hb : fn.body.isNone = true) (hn : Extern.findNext fn = none) (he : Extern.find fn = some Extern.AbiNoEscape.same) (hx : aev env x = v) :
  Gv P env O (Oper.mk (some d) (.call { callee := .value (.func f), args := #[x], argTypes := tys }) ty pos af none) v := q6 fun I ρ h => by
 refine ⟨Go.Proofs.YtbkgklpihnfnjaaGreatDoor.ev ρ x, hx ▸ h.ev x, fun w=>?_⟩
 have := run_callFunc_extern hf hname hb hn he #[Go.Proofs.YtbkgklpihnfnjaaGreatDoor.ev ρ x] w
 rw [run_noEscape] at this
 have e1 : Go.Proofs.YtbkgklpihnfnjaaGreatDoor.ev ρ (.func f) = .func (.func f) #[] #[] := rfl
 simp [execOp, resolve, e1, Deferred.ofValue, invoke, this, Result.andThen]
theorem SL.scrap {I : Ghost} {A : List (Nat × Obj)} {E w w' : World} {b : Nat} {o : Obj} (h : SL I ((b, o) :: A) E w) (h1 : w'.os = w.os) (h2 : w'.output = w.output) (h3 : w'.tape = w.tape) (h5 : ∀ k, k ≠ b → w'.heap[k]? = w.heap[k]?) : SL I A E w' := by
 have hn := h.nodup
 simp only [List.map_cons, List.nodup_cons] at hn
 refine ⟨h1.trans h.os, h2.trans h.output, h3.trans h.tape, ?_, ?_, hn.2, fun x hx => h.apart x (List.mem_cons_of_mem _ hx), h.base, h.flat, fun x hx => h.oflat x (List.mem_cons_of_mem _ hx)⟩
 ·intro k ok hk
  rw [h5 k (fun e=>?_)]
  ·exact h.pers k ok hk
  ·subst e; rw [h.apart (k, o) (by simp)] at hk; cases hk
 ·intro x hx
  rw [h5 x.1 (fun e => hn.1 (e ▸ List.mem_map.2 ⟨x, hx, rfl⟩))]
  exact h.own x (List.mem_cons_of_mem _ hx)
end
section
variable {E : World} {P : Program} {env : AEnv} {O : OL} {d ty : Nat} {pos : String} {af : Array Edge} {t e kt : TypeId} {x y : Operand} {b i : Nat} {es : List (ByteArray × Int)}
theorem Gv.lookup1S {s : ByteArray} (ht : P.underlying t = some (.map kt e)) (hk : P.underlying kt = some .string) (hz : ∀ w, (zeroValue e).run P w = .ok (.int .i64 0) w) (hx : aev env x = mref b) (hy : aev env y = .str s) (hO : Has O i (mapO b es)) :
  Gv P env O (Oper.mk (some d) (.lookup t x y false) ty pos af none) (.int .i64 ((mget s es).getD 0)) := fun I L E ρ h1 hL => by
 obtain ⟨arr, clock, hm, he⟩ := map_in hO hL
 have hx := evRaw h1 hx
 have hy := evT h1 hy
 refine ⟨.int .i64 ((mget s es).getD 0), Z, fun w J L' hl hS hin => ?_⟩
 have hb := hS.own _ (hin _ hm)
 simp only at hb
 have hc : (Instr.checkKey arr.isEmpty 10000 kt (.string s)).run P w = .ok () w := MapKept.run_checkKey (k := .string s) hk (by simp [MapKept.IsKey]) _ 9999
 cases hg : mget s es with
 | none =>
  have hf := findNow_none (i := 0) he hg
  simp [execOp, Instr.lookup, run_underlying ht, hx, hy, MapKept.run_getObj_map hb, hc, MapKept.run_findKey hk hf, hz, Result.andThen]
 | some u =>
  obtain ⟨j, hf, _⟩ := findNow_some (i := 0) he hg
  simp [execOp, Instr.lookup, run_underlying ht, hx, hy, MapKept.run_getObj_map hb, hc, MapKept.run_findKey hk hf, Result.andThen]
end
theorem mget_set (s v : ByteArray) (n : Int) : ∀ es : List (ByteArray × Int), mget s (mset v n es) = if s = v then some n else mget s es
 | [] => by simp only [mset, mget]
 | (k, u) :: es => by
  simp only [mset]
  split
  ·rename_i h; subst h; simp only [mget]; split <;> rfl
  ·rename_i h
   simp only [mget, mget_set s v n es]
   split
   ·rename_i h2; subst h2; rw [if_neg (fun e => h e.symm)]
   ·rfl
end Go.Proofs.YtbkgklpihnfnjaaGreatDoor
namespace Go.Proofs.YtbkgklpihnfnjaaGreatDoor
def cI (l : List Int) : List AV := l.map (AV.int .i64)
def cB (l : List Bool) : List AV := l.map AV.bool
theorem cI_len (l : List Int) : (cI l).length = l.length := by simp [cI]
theorem cB_len (l : List Bool) : (cB l).length = l.length := by simp [cB]
theorem cI_flat (l : List Int) : (l.map fun x => [AV.int .i64 x]).flatten = cI l := by
 induction l with
 | nil => rfl
 | cons x l ih => simp only [List.map_cons, List.flatten_cons, ih]; rfl
theorem cB_flat (l : List Bool) : (l.map fun x => [AV.bool x]).flatten = cB l := by
 induction l with
 | nil => rfl
 | cons x l ih => simp only [List.map_cons, List.flatten_cons, ih]; rfl
theorem cI_app (l m : List Int) : cI l ++ cI m = cI (l ++ m) := by simp [cI]
theorem cI_set (l : List Int) (j : Nat) (v : Int) : (cI l).set j (.int .i64 v) = cI (l.set j v) := by unfold cI; rw [List.map_set]
theorem cB_set (l : List Bool) (j : Nat) (v : Bool) : (cB l).set j (.bool v) = cB (l.set j v) := by unfold cB; rw [List.map_set]
theorem cI_drop {l : List Int} {j : Nat} {v : Int} (h : l[j]? = some v) : (cI l).drop j = .int .i64 v :: (cI l).drop (j + 1) := by
 obtain ⟨hj, e⟩ := List.getElem?_eq_some_iff.1 h
 rw [List.drop_eq_getElem_cons (by rw [cI_len]; exact hj)]
 unfold cI
 rw [List.getElem_map, e]
theorem cB_drop {l : List Bool} {j : Nat} {v : Bool} (h : l[j]? = some v) : (cB l).drop j = .bool v :: (cB l).drop (j + 1) := by
 obtain ⟨hj, e⟩ := List.getElem?_eq_some_iff.1 h
 rw [List.drop_eq_getElem_cons (by rw [cB_len]; exact hj)]
 unfold cB
 rw [List.getElem_map, e]
theorem cI_rep (n : Nat) (v : Int) : List.replicate n (AV.int .i64 v) = cI (List.replicate n v) := by simp [cI]
theorem cB_rep (n : Nat) (v : Bool) : List.replicate n (AV.bool v) = cB (List.replicate n v) := by simp [cB]
theorem cI_rep_of (I : G) (l : List Int) : RepL I (cI l) (l.map (Value.int .i64)) := by
 unfold cI
 induction l with
 | nil => rfl
 | cons x l ih => exact ⟨_, _, rfl, rfl, ih⟩
theorem cI_un {I : G} : ∀ {l : List Int} {vs : List Value}, RepL I (cI l) vs → vs = l.map (Value.int .i64)
 | [], _, h => h
 | x :: l, _, ⟨v, us, e, h1, h2⟩ => by
  have h1 : v = .int .i64 x := h1
  rw [e, h1, cI_un h2]; rfl
section
variable {E : World} {P : Program} {ops : Array Oper} {K : AEnv → OL → Prop} {env : AEnv} {O O' O'' : OL} {rest : List Oper} {n : Nat}
variable {d ty : Nat} {pos : String} {af : Array Edge} {x y z : Operand} {t u e : TypeId}
theorem Gv.idxI {i n j : Nat} {a : Int} {T : TypeId} {cs : List AV} (ht : P.underlying t = some (.slice e)) (hs : ∀ w, (sizeOf e).run P w = .ok 1 w) (hx : aev env x = .own i n) (hy : aev env y = .int .i64 a) (hi : a = (j : Int)) (hO : Has O i (.grow 1 T cs)) (hn : cs.length = n) (hj : j < n) :
  Gv P env O (Oper.mk (some d) (.indexAddr t x y) ty pos af none) (.po i j) :=
 Gv.idxOL ht hs hx hy hi hO (fun e => by rw [e] at hn; simp at hn; omega) hj (Nat.mul_one j)
theorem Gv.loadI {i j : Nat} {T : TypeId} {l : List Int} {v : Int} (ha : ∀ w, (isAgg t).run P w = .ok false w) (hx : aev env x = .po i j) (hO : Has O i (.grow 1 T (cI l))) (hv : l[j]? = some v) :
  Gv P env O (Oper.mk (some d) (.load t x) ty pos af none) (.int .i64 v) := Gv.load1G ha hx hO (cI_drop hv)
theorem Gv.loadB {i j : Nat} {T : TypeId} {l : List Bool} {v : Bool} (ha : ∀ w, (isAgg t).run P w = .ok false w) (hx : aev env x = .po i j) (hO : Has O i (.grow 1 T (cB l))) (hv : l[j]? = some v) :
  Gv P env O (Oper.mk (some d) (.load t x) ty pos af none) (.bool v) := Gv.load1G ha hx hO (cB_drop hv)
theorem Put.cast {i k : Nat} {T : TypeId} {o : AObj} {cs ds : List AV} (h : Put O i o (.grow k T cs) O') (e : cs = ds) : Put O i o (.grow k T ds) O' := e ▸ h
theorem AOps.storeI {i j : Nat} {T : TypeId} {l : List Int} {v : Int} (hs : ∀ w, (sizeOf t).run P w = .ok 1 w) (hx : aev env x = .po i j) (hy : aev env y = .int .i64 v) (hO : Put O i (.grow 1 T (cI l)) (.grow 1 T (cI (l.set j v))) O') (hb : j < l.length)
  (kk : AOps P E ops K rest env O') : AOps P E ops K (Oper.mk none (.store t x y) ty pos af none :: rest) env O :=
 AOps.storeG1 (cs := cI l) hs hx hy rfl rfl rfl (hO.cast (cI_set l j v).symm) (by rw [cI_len]; exact hb) kk
theorem AOps.storeB {i j : Nat} {T : TypeId} {l : List Bool} {v : Bool} (hs : ∀ w, (sizeOf t).run P w = .ok 1 w) (hx : aev env x = .po i j) (hy : aev env y = .bool v) (hO : Put O i (.grow 1 T (cB l)) (.grow 1 T (cB (l.set j v))) O') (hb : j < l.length)
  (kk : AOps P E ops K rest env O') : AOps P E ops K (Oper.mk none (.store t x y) ty pos af none :: rest) env O :=
 AOps.storeG1 (cs := cB l) hs hx hy rfl rfl rfl (hO.cast (cB_set l j v).symm) (by rw [cB_len]; exact hb) kk
theorem AOps.makeI {i : TypeInfo} {zv : Value} {m : Nat} {k1 k2 : IntKind} {l l' : Int} (ht : P.underlying t = some (.slice e)) (hi : P.info? e = some i) (hz : i.zero = some zv) (hzc : zv.cells = #[.int .i64 0]) (hk : i.size = 1) (hx : aev env x = .int k1 l) (hy : aev env y = .int k2 l')
  (hl : l = (m : Int)) (hl' : l' = (m : Int)) (hb : (i.bytes : Int) * (m : Int) ≤ 281474976710656) (hm : m ≤ 281474976710656) (kk : ∀ j, AOps P E ops K rest (aupd env d (.own j m)) ((j, .grow 1 e (cI (List.replicate m 0))) :: O)) :
  AOps P E ops K (Oper.mk (some d) (.makeSlice t x y) ty pos af none :: rest) env O :=
 AOps.make1 ht hi hz hzc hk hx hy hl hl' hb hm rfl fun j => by rw [show lit (.int .i64 0) = AV.int .i64 0 from rfl, cI_rep]; exact kk j
theorem AOps.makeB {i : TypeInfo} {zv : Value} {m : Nat} {k1 k2 : IntKind} {l l' : Int} (ht : P.underlying t = some (.slice e)) (hi : P.info? e = some i) (hz : i.zero = some zv) (hzc : zv.cells = #[.bool false]) (hk : i.size = 1) (hx : aev env x = .int k1 l) (hy : aev env y = .int k2 l')
  (hl : l = (m : Int)) (hl' : l' = (m : Int)) (hb : (i.bytes : Int) * (m : Int) ≤ 281474976710656) (hm : m ≤ 281474976710656) (kk : ∀ j, AOps P E ops K rest (aupd env d (.own j m)) ((j, .grow 1 e (cB (List.replicate m false))) :: O)) :
  AOps P E ops K (Oper.mk (some d) (.makeSlice t x y) ty pos af none :: rest) env O :=
 AOps.make1 ht hi hz hzc hk hx hy hl hl' hb hm rfl fun j => by rw [show lit (.bool false) = AV.bool false from rfl, cB_rep]; exact kk j
theorem GStep.knowI {t i m : Nat} {T : TypeId} {l : List Int} (hv : env t = .own i m) (hO : Pick O i (.grow 1 T (cI l)) O') (hm : l.length = m) : GStep E env O (aupd env t (.fro 1 (l.map fun x => [.int .i64 x]))) O' :=
 yw hv (by rw [cI_flat]; exact hO) (fun r hr => by obtain ⟨_, _, rfl⟩ := List.mem_map.1 hr; rfl) (by decide) (by rw [qk]; exact hm)
theorem GStep.knowB {t i m : Nat} {T : TypeId} {l : List Bool} (hv : env t = .own i m) (hO : Pick O i (.grow 1 T (cB l)) O') (hm : l.length = m) : GStep E env O (aupd env t (.fro 1 (l.map fun x => [.bool x]))) O' :=
 yw hv (by rw [cB_flat]; exact hO) (fun r hr => by obtain ⟨_, _, rfl⟩ := List.mem_map.1 hr; rfl) (by decide) (by rw [qk]; exact hm)
end
structure Enc (α : Type) where
 k : Nat
 val : α → List Value
 pos : 0 < k
 len : ∀ x, (val x).length = k
 one : ∀ x, ∀ u ∈ val x, u.oneCell' = true
variable {α : Type}
def Enc.vs (c : Enc α) (l : List α) : List Value := l.flatMap c.val
def Enc.row (c : Enc α) (x : α) : List AV := (c.val x).map lit
def Enc.av (c : Enc α) (l : List α) : List AV := l.flatMap c.row
theorem Enc.vs_len (c : Enc α) (l : List α) : (c.vs l).length = l.length * c.k := by
 unfold Enc.vs
 induction l with
 | nil => simp
 | cons x l ih => rw [List.flatMap_cons, qj, ih, c.len, List.length_cons, Nat.add_mul]; omega
theorem Enc.av_eq (c : Enc α) (l : List α) : c.av l = (c.vs l).map lit := by
 unfold Enc.av Enc.vs
 induction l with
 | nil => rfl
 | cons x l ih => rw [List.flatMap_cons, List.flatMap_cons, qo, ih]; rfl
theorem Enc.av_len (c : Enc α) (l : List α) : (c.av l).length = l.length * c.k := by rw [c.av_eq, qk, c.vs_len]
theorem Enc.av_app (c : Enc α) (l m : List α) : c.av l ++ c.av m = c.av (l ++ m) := by unfold Enc.av; rw [List.flatMap_append]
theorem Enc.av_push (c : Enc α) (l : List α) (x : α) : c.av l ++ c.row x = c.av (l ++ [x]) := by rw [← c.av_app]; unfold Enc.av; simp
theorem Enc.vs_one (c : Enc α) (l : List α) : ∀ u ∈ c.vs l, u.oneCell' = true := by
 intro u hu
 unfold Enc.vs at hu
 obtain ⟨x, _, hx⟩ := List.mem_flatMap.1 hu
 exact c.one x u hx
theorem Enc.av_un (c : Enc α) {I : G} {l : List α} {vs : List Value} (h : RepL I (c.av l) vs) : vs = c.vs l := by rw [c.av_eq] at h; exact lit_uns h
def eI : Enc Int := ⟨1, fun x => [.int .i64 x], by decide, fun _ => rfl, fun x u hu => by simp at hu; subst hu; rfl⟩
def eP : Enc (Int × Int) := ⟨2, fun p => [.int .i64 p.1, .int .i64 p.2], by decide, fun _ => rfl, fun x u hu => by simp at hu; rcases hu with rfl | rfl <;> rfl⟩
inductive NestR (c : Enc α) (e : TypeId) : List (List α) → List Value → List (Nat × Obj) → Prop
 | nil : NestR c e [] [] []
 | cons {r rs a n cap hs A B} : OwnS c.k e a n cap (c.vs r) A → NestR c e rs hs B → NestR c e (r :: rs) (.slice a n cap :: hs) (A ++ B)
theorem NestR.len {c : Enc α} {e : TypeId} {rows : List (List α)} {hs : List Value} {L : List (Nat × Obj)} (h : NestR c e rows hs L) : hs.length = rows.length := by
 induction h with
 | nil => rfl
 | cons _ _ ih => simp [ih]
def NHole (c : Enc α) (e : TypeId) (rows : List (List α)) (j : Nat) (hs : List Value) (B : List (Nat × Obj)) : Prop :=
 ∀ r' a' n' c' A', OwnS c.k e a' n' c' (c.vs r') A' → ∃ L', NestR c e (rows.set j r') (hs.set j (.slice a' n' c')) L' ∧ L'.Perm (A' ++ B)
theorem NestR.get {c : Enc α} {e : TypeId} {rows : List (List α)} {hs : List Value} {L : List (Nat × Obj)} (h : NestR c e rows hs L) : ∀ {j : Nat} {r : List α}, rows[j]? = some r →
  ∃ a n cap A B, hs[j]? = some (.slice a n cap) ∧ OwnS c.k e a n cap (c.vs r) A ∧ L.Perm (A ++ B) ∧ NHole c e rows j hs B := by
 induction h with
 | nil => intro j r hj; simp at hj
 | @cons r0 rs a n cap hs A B h1 h2 ih =>
  intro j r hj
  cases j with
  | zero =>
   simp at hj; subst hj
   exact ⟨a, n, cap, A, B, rfl, h1, .refl _, fun r' a' n' c' A' h => ⟨A' ++ B, .cons h h2, .refl _⟩⟩
  | succ j =>
   obtain ⟨a1, n1, c1, A1, B1, g1, g2, g3, g4⟩ := ih (j := j) (r := r) (by simpa using hj)
   refine ⟨a1, n1, c1, A1, A ++ B1, by simpa using g1, g2, ?_, fun r' a' n' c' A' h => ?_⟩
   ·refine (g3.append_left A).trans ?_
    rw [← qf, ← qf]
    exact List.perm_append_comm.append_right B1
   ·obtain ⟨L', k1, k2⟩ := g4 r' a' n' c' A' h
    refine ⟨A ++ L', by simpa using NestR.cons h1 k1, ?_⟩
    refine (k2.append_left A).trans ?_
    rw [← qf, ← qf]
    exact List.perm_append_comm.append_right B1
theorem NestR.rep (c : Enc α) (e : TypeId) : ∀ m : Nat, NestR c e (List.replicate m []) (List.replicate m (.slice none 0 0)) []
 | 0 => .nil
 | m + 1 => by
  have := NestR.cons (c := c) (r := []) (OwnS.nil c.k e) (NestR.rep c e m)
  simpa [List.replicate_succ] using this
def nestO (c : Enc α) (T e : TypeId) (b : Nat) (rows : List (List α)) : AObj := .heap fun L => ∃ hs B, L = (b, .cells hs.toArray T (0, 0)) :: B ∧ NestR c e rows hs B
def nestH (c : Enc α) (T e : TypeId) (b : Nat) (rows : List (List α)) (j n i : Nat) : AObj := .heapG (fun I L => ∃ hs B hd, L = (b, .cells hs.toArray T (0, 0)) :: B ∧ I.h i = some hd ∧ hs[j]? = some (.slice (adr hd.1) n hd.2) ∧ hs.length = rows.length ∧ NHole c e rows j hs B)
 (fun I J L h hp => by obtain ⟨hs, B, hd, h1, h2, h3⟩ := hp; exact ⟨hs, B, hd, h1, h.h _ _ h2, h3⟩)
def nref (b n : Nat) : AV := .raw (.slice (some ⟨b, 0, none⟩) n n)
def nptr (b j : Nat) : AV := .raw (.pointer (some ⟨b, j, none⟩))
theorem OwnS.adr {k : Nat} {e : TypeId} {a : Option Addr} {n c : Nat} {cs : List Value} {A : List (Nat × Obj)} (h : OwnS k e a n c cs A) : ∃ b, a = Go.Proofs.YtbkgklpihnfnjaaGreatDoor.adr b := by
 rcases h.2.2 with ⟨e, _⟩ | ⟨b, junk, e, _⟩
 ·exact ⟨none, e⟩
 ·exact ⟨some b, e⟩
section
variable {E : World} {P : Program} {ops : Array Oper} {K : AEnv → OL → Prop} {env : AEnv} {O O' O'' : OL} {rest : List Oper} {n : Nat}
variable {d ty : Nat} {pos : String} {af : Array Edge} {x y z : Operand} {t u e T : TypeId}
theorem AOps.makeNest {i : TypeInfo} {zv : Value} {m : Nat} {k1 k2 : IntKind} {l l' : Int} (ht : P.underlying t = some (.slice T)) (hi : P.info? T = some i) (hz : i.zero = some zv) (hzc : zv.cells = #[.slice none 0 0]) (hk : i.size = 1) (hx : aev env x = .int k1 l) (hy : aev env y = .int k2 l')
  (hl : l = (m : Int)) (hl' : l' = (m : Int)) (hb : (i.bytes : Int) * (m : Int) ≤ 281474976710656) (hm : m ≤ 281474976710656) (c : Enc α) (e : TypeId) (kk : ∀ b, AOps P E ops K rest (aupd env d (nref b m)) ((0, nestO c T e b (List.replicate m [])) :: O)) :
  AOps P E ops K (Oper.mk (some d) (.makeSlice t x y) ty pos af none :: rest) env O := fun I F ρ w h1 h2 => by
 obtain ⟨htop, L, hL, hS⟩ := h2
 refine Ops.make1 ht hi hz hzc hk (evI h1 hx) (evI h1 hy) hl hl' hb hm hS fun b w' hS' => ?_
 exact kk b I F _ _ (h1.upd d rfl) ⟨htop, _, ⟨[(b, .cells (List.replicate m (.slice none 0 0)).toArray T (0, 0))], L, rfl, ⟨List.replicate m (.slice none 0 0), [], rfl, NestR.rep c e m⟩, hL⟩, by simpa using hS'⟩
theorem Gv.idxN {b m j : Nat} {a : Int} (ht : P.underlying t = some (.slice T)) (hs : ∀ w, (sizeOf T).run P w = .ok 1 w) (hx : aev env x = nref b m) (hy : aev env y = .int .i64 a) (hi : a = (j : Int)) (hj : j < m) :
  Gv P env O (Oper.mk (some d) (.indexAddr t x y) ty pos af none) (nptr b j) := q6 fun I ρ h => by
 have h1 := evRaw h hx
 have h2 := evI h hy
 subst hi
 have hlt : ((j : Int) < (m : Int)) := by omega
 refine ⟨_, Z, fun w=>?_⟩
 simp [execOp, h1, h2, Instr.indexAt, Sem.run_bind, run_underlying ht, hs, hlt, addr_add, asIntOf]
 intro h; omega
theorem AOps.nestTake {c : Enc α} {b j m : Nat} {rows : List (List α)} {r : List α} {f : Nat → OL} (ha : ∀ w, (isAgg t).run P w = .ok false w) (hx : aev env x = nptr b j) (hr : rows[j]? = some r)
  (hO : ∀ i, Put O m (nestO c T e b rows) (nestH c T e b rows j r.length i) (f i)) (kk : ∀ i, AOps P E ops K rest (aupd env d (.own i r.length)) ((i, .grow c.k e (c.av r)) :: f i)) :
  AOps P E ops K (Oper.mk (some d) (.load t x) ty pos af none :: rest) env O := fun I F ρ w h1 h2 => by
 obtain ⟨i, hi⟩ := h2.name
 obtain ⟨htop, L, hL, hS⟩ := h2
 have hx := evRaw h1 hx
 obtain ⟨A, B, hp, ⟨hs, B0, rfl, hN⟩, hback⟩ := (hO i).rep hL
 obtain ⟨a, n, cap, A1, B1, g1, g2, g3, g4⟩ := hN.get hr
 obtain ⟨b1, rfl⟩ := g2.adr
 have hn : n = r.length := by have := g2.1; rw [c.vs_len] at this; exact (Nat.eq_of_mul_eq_mul_right c.pos this).symm
 subst hn
 obtain ⟨J, e1, hle, e2, htop'⟩ := hi (b1, cap)
 have hS2 : SL I.k ((b, .cells hs.toArray T (0, 0)) :: (B0 ++ (B ++ F))) E w := hS.perm (by
  have := hp.append_right F
  simpa using this.symm)
 obtain ⟨L', h5, h6⟩ := hback hle (A' := (b, .cells hs.toArray T (0, 0)) :: B1) ⟨hs, B1, (b1, cap), rfl, e2, g1, hN.len, g4⟩
 refine Ops.load1 (I := I.k) (O := (b, .cells hs.toArray T (0, 0)) :: (B0 ++ (B ++ F))) ha hS2 hx (.inr ⟨_, _, _, .head _, by rw [List.getElem?_toArray]; exact g1⟩) ?_
 refine yu (fun _ _ => postK.up hle) _ _ _ (kk i J F _ _ ((h1.mono hle).upd d ⟨b1, cap, e2, Z⟩) ⟨htop', A1 ++ L', ⟨A1, L', Z, ⟨b1, cap, _, c.vs r, e2, by rw [c.av_eq]; exact lit_reps J _, c.vs_one r, g2⟩, h5⟩, ?_⟩)
 rw [e1]
 refine hS2.perm<|List.Perm.trans ?_ (List.Perm.cons _ ((g3.append_right (B ++ F)).symm))
 have h7 : (A1 ++ L' ++ F).Perm (A1 ++ ((b, Obj.cells hs.toArray T (0, 0)) :: (B1 ++ B)) ++ F) := (h6.append_left A1).append_right F
 refine h7.trans ?_
 simp only [qf, List.cons_append]
 exact List.perm_middle
theorem AOps.nestPut {c : Enc α} {b j m i i0 n0 n1 k : Nat} {rows : List (List α)} {r : List α} {cs : List AV} (hs1 : ∀ w, (sizeOf t).run P w = .ok 1 w) (hx : aev env x = nptr b j) (hy : aev env y = .own i n1) (hj : j < rows.length)
  (hP0 : Pick O i (.grow k e cs) O') (hO : Put O' m (nestH c T e b rows j n0 i0) (nestO c T e b (rows.set j r)) O'') (hk : k = c.k) (hcs : cs = c.av r) (hn1 : r.length = n1) (kk : AOps P E ops K rest env O'') :
  AOps P E ops K (Oper.mk none (.store t x y) ty pos af none :: rest) env O := fun I F ρ w h1 h2 => by
 obtain ⟨htop, L, hL, hS⟩ := h2
 have hP : Pick O i (.grow c.k e (c.av r)) O' := by subst hk hcs; exact hP0
 have hx := evRaw h1 hx
 have h3 := h1.ev y
 rw [hy] at h3
 obtain ⟨b1, c1, e1, ey⟩ := h3
 obtain ⟨A, B, hp, ⟨b1', c1', n', vs, e2, hvs, hvc, hown⟩, hB⟩ := hP.rep hL
 simp only at e2
 rw [e1] at e2
 simp only [Option.some.injEq, Prod.mk.injEq] at e2
 obtain ⟨rfl, rfl⟩ := e2
 have hv := c.av_un hvs
 subst hv
 have hnn : n' = n1 := by have := hown.1; rw [c.vs_len, hn1] at this; exact (Nat.eq_of_mul_eq_mul_right c.pos this).symm
 subst hnn
 obtain ⟨A2, B2, hp2, ⟨hs, B0, hd, rfl, _, hsj, hsl, hole⟩, hback⟩ := hO.rep hB
 obtain ⟨L', k1, k2⟩ := hole r _ _ _ A hown
 have hS2 : SL I.k ([(b, .cells hs.toArray T (0, 0))] ++ (A ++ (B0 ++ (B2 ++ F)))) E w := hS.perm (by
  refine List.Perm.trans ?_ ((hp.append_right F).symm)
  refine List.Perm.trans ?_ (((hp2.append_left A).append_right F).symm)
  simp only [qf, List.cons_append, List.nil_append]
  exact (List.perm_middle).symm)
 refine Ops.store1 (cs := hs) (off := j) hs1 hx ey Z (by rw [hsl]; exact hj) hS2 fun w' hS' => ?_
 obtain ⟨L2, h7, h8⟩ := hback (qa I) (A' := (b, .cells (hs.set j (.slice (adr b1) n' c1)).toArray T (0, 0)) :: L') ⟨_, L', rfl, k1⟩
 refine kk I F _ _ h1 ⟨htop, L2, h7, hS'.perm ?_⟩
 refine (h8.append_right F).trans ?_
 simp only [List.cons_append, List.nil_append, qf]
 refine List.Perm.cons _ ?_
 have := k2.append_right (B2 ++ F)
 simpa [qf] using this
theorem SL.freezeAllN : ∀ {A : List (Nat × Obj)} {I : Ghost} {F : List (Nat × Obj)} {E w : World}, SL I (A ++ F) E w → ∃ J, I.le J ∧ SL J F E w ∧ ∀ x ∈ A, J x.1 = some x.2
 | [], I, F, E, w, h => ⟨I, .refl _, h, fun _ h => by cases h⟩
 | (b, o) :: A, I, F, E, w, h => by
  obtain ⟨h1, h2⟩ := SL.freeze (show SL I ((b, o) :: (A ++ F)) E w from h)
  obtain ⟨J, h3, h4, h5⟩ := SL.freezeAllN h2
  refine ⟨J, h1.trans h3, h4, fun x hx => ?_⟩
  rcases List.mem_cons.1 hx with rfl | hx
  ·exact h3 _ _ (Ghost.put_same _ _ _)
  ·exact h5 x hx
theorem OwnS.fro {c : Enc α} {I : G} {e : TypeId} {a : Option Addr} {n cap : Nat} {r : List α} {A : List (Nat × Obj)} (h : OwnS c.k e a n cap (c.vs r) A) (hI : ∀ x ∈ A, I.k x.1 = some x.2) : RepV I (.fro c.k (r.map c.row)) (.slice a n cap) := by
 obtain ⟨h1, h2, h3⟩ := h
 have hn : n = r.length := by rw [c.vs_len] at h1; exact (Nat.eq_of_mul_eq_mul_right c.pos h1).symm
 subst hn
 rcases h3 with ⟨rfl, rfl, _⟩ | ⟨b, junk, rfl, rfl, hj⟩
 ·have h0 : r = [] := qn (by omega)
  subst h0
  exact ⟨none, 0, 0, rfl, rfl, Nat.le_refl _, fun _ => rfl, trivial⟩
 ·have hb := hI _ (.head _)
  simp only at hb
  have hflat : (r.map c.row).flatten = (c.vs r).map lit := by rw [← c.av_eq]; unfold Enc.av; rw [List.flatMap]
  refine ⟨_, _, _, Z, by simp, h2, fun e => (by cases e), RepR.of_flat hb (r.map c.row) (c.vs r) 0 (fun x hx => by obtain ⟨y, _, rfl⟩ := List.mem_map.1 hx; unfold Enc.row; rw [qk, c.len]) (by rw [hflat]; exact lit_reps I _) fun i u hu => ?_⟩
  rw [Nat.zero_mul, Nat.zero_add, List.getElem?_toArray, List.getElem?_append_left (List.getElem?_eq_some_iff.1 hu).1]
  exact hu
theorem NestR.fro {c : Enc α} {I : G} {e : TypeId} {rows : List (List α)} {hs : List Value} {B : List (Nat × Obj)} (h : NestR c e rows hs B) (hI : ∀ x ∈ B, I.k x.1 = some x.2) : RepL I (rows.map fun r => .fro c.k (r.map c.row)) hs := by
 induction h with
 | nil => rfl
 | cons h1 _ ih => exact ⟨_, _, rfl, h1.fro fun x hx => hI x (List.mem_append_left _ hx), ih fun x hx => hI x (List.mem_append_right _ hx)⟩
def froN (c : Enc α) (rows : List (List α)) : AV := .fro 1 (rows.map fun r => [.fro c.k (r.map c.row)])
theorem nest_know {c : Enc α} {I : G} {F : List (Nat × Obj)} {E w : World} {b m : Nat} {rows : List (List α)} (hO : Pick O m (nestO c T e b rows) O') (h : SLA I O F E w) : ∃ J B, I.le J ∧ RepOs I O' B ∧ (∃ top, ∀ i, top ≤ i → J.h i = none) ∧ SL J.k (B ++ F) E w ∧ RepV J (froN c rows) (.slice (some ⟨b, 0, none⟩) rows.length rows.length) := by
 obtain ⟨htop, L, hL, hS⟩ := h
 obtain ⟨A, B, hp, ⟨hs, B0, rfl, hN⟩, hB⟩ := hO.rep hL
 have hS2 : SL I.k (((b, .cells hs.toArray T (0, 0)) :: B0) ++ (B ++ F)) E w := hS.perm (by rw [← qf]; exact (hp.append_right F).symm)
 obtain ⟨J, h1, h2, h3⟩ := SL.freezeAllN hS2
 have hle : I.le ⟨J, I.h⟩ := ⟨h1, fun _ _ h => h⟩
 refine ⟨⟨J, I.h⟩, B, hle, hB, htop, h2, ?_⟩
 have hb := h3 _ (.head _)
 simp only at hb
 have hrep := hN.fro (I := ⟨J, I.h⟩) fun x hx => h3 x (.tail _ hx)
 refine ⟨_, _, _, Z, by simp, Nat.le_refl _, fun e => (by cases e), RepR.intro fun j row hj => ?_⟩
 rw [ql] at hj
 obtain ⟨r, hr, rfl⟩ := Option.map_eq_some_iff.1 hj
 obtain ⟨v, hv1, hv2⟩ := hrep.get (j := j) (x := .fro c.k (r.map c.row)) (by rw [ql, hr]; rfl)
 refine ⟨b, 0, [v], Z, Z, RepL.one hv2, fun i u hu => ?_⟩
 cases i with
 | zero =>
  simp at hu; subst hu
  exact ⟨_, _, _, hb, by rw [List.getElem?_toArray, show 0 + (0 + j) * 1 + 0 = j by omega]; exact hv1⟩
 | succ i => simp at hu
theorem GStep.nestKnow {c : Enc α} {s b m n : Nat} {rows : List (List α)} (hv : env s = nref b n) (hO : Pick O m (nestO c T e b rows) O') (hn : rows.length = n) : GStep E env O (aupd env s (froN c rows)) O' := fun I F ρ w h1 h2 => by
 obtain ⟨J, B, hle, hB, htop, hS, hrep⟩ := nest_know hO h2
 refine ⟨J, hle, fun q=>?_, htop, B, hB.mono hle, hS⟩
 unfold aupd
 cases hb : Nat.beq q s with
 | false => exact RepV.mono hle _ _ (h1 q)
 | true =>
  have : q = s := Nat.eq_of_beq_eq_true hb
  subst this
  have h4 := h1 q
  rw [hv] at h4
  have h4 : ρ q = .slice (some ⟨b, 0, none⟩) n n := h4
  rw [h4, ← hn]; exact hrep
end
end Go.Proofs.YtbkgklpihnfnjaaGreatDoor
namespace Go.Proofs.YtbkgklpihnfnjaaGreatDoor
section
variable {E : World} {P : Program} {ops : Array Oper} {K : AEnv → OL → Prop} {env : AEnv} {O O' O'' : OL} {rest : List Oper} {n : Nat}
variable {d ty : Nat} {pos : String} {af : Array Edge} {x y z : Operand} {t u e : TypeId}
theorem AOps.cutTo {i k m j : Nat} {a : Int} {T : TypeId} {cs : List AV} (ht : P.underlying t = some (.slice e)) (hs : ∀ w, (sizeOf e).run P w = .ok k w) (hx : aev env x = .own i m) (hy : aev env y = .int .i64 a) (hi : a = (j : Int)) (hO : Put O i (.grow k T cs) (.grow k T (cs.take (j * k))) O')
  (hk : 0 < k) (hj : j * k ≤ cs.length)
  (kk : AOps P E ops K rest (aupd env d (.own i j)) O') : AOps P E ops K (Oper.mk (some d) (.slice t x none (some y) none) ty pos af none :: rest) env O := fun I F ρ w h1 h2 => by
 obtain ⟨htop, L, hL, hS⟩ := h2
 have h3 := h1.ev x
 rw [hx] at h3
 obtain ⟨b, c, e1, e2⟩ := h3
 have h4 := evI h1 hy
 subst hi
 obtain ⟨A, B, hp, ⟨b', c', n', vs, e3, hvs, hvc, h5, h6, h7⟩, hback⟩ := hO.rep hL
 simp only at e3
 rw [e1] at e3
 simp only [Option.some.injEq, Prod.mk.injEq] at e3
 obtain ⟨rfl, rfl⟩ := e3
 have hlen : vs.length = cs.length := hvs.length
 have hjn : j ≤ n' := by
  have : j * k ≤ n' * k := by omega
  exact Nat.le_of_mul_le_mul_right this hk
 have hjc : j ≤ c := by omega
 have hval : (execOp (Go.Proofs.YtbkgklpihnfnjaaGreatDoor.ev ρ) (Oper.mk (some d) (.slice t x none (some y) none) ty pos af none)).run P w = .ok (.value (.slice (adr b) j c)) w := by
  have : (if c = 0 then adr b else (adr b).map (·.add (0 * k))) = adr b := by
   split
   ·rfl
   ·cases b <;> simp [adr, Addr.add]
  simp [execOp, Instr.sliceAt, Instr.slice, Instr.sliceBounds, Instr.sliceBound, asIntOf, Sem.run_bind, run_underlying ht, hs, e2, h4, hjc]
  simpa using this
 obtain ⟨L', h8, h9⟩ := hback (qa I) (A' := A) ⟨b, c, j, vs.take (j * k), e1, hvs.take _, fun u hu => hvc u (List.mem_of_mem_take hu), by rw [qp]; omega, by omega, by
  rcases h7 with h7 | ⟨b2, junk, e4, e5, e6⟩
  ·exact .inl ⟨h7.1, h7.2.1, h7.2.2⟩
  ·exact .inr ⟨b2, vs.drop (j * k) ++ junk, e4, by rw [← qf, List.take_append_drop]; exact e5, by rw [← qf, List.take_append_drop]; exact e6⟩⟩
 exact Ops.val hval (kk I F _ w (h1.upd d ⟨b, c, e1, rfl⟩) ⟨htop, L', h8, hS.perm ((h9.trans hp.symm).append_right F)⟩)
theorem AOps.cutLast {i k m j : Nat} {a : Int} {T : TypeId} {A row : List AV} (ht : P.underlying t = some (.slice e)) (hs : ∀ w, (sizeOf e).run P w = .ok k w) (hx : aev env x = .own i m) (hy : aev env y = .int .i64 a) (hi : a = (j : Int)) (hO : Put O i (.grow k T (A ++ row)) (.grow k T A) O')
  (hk : 0 < k) (hA : A.length = j * k)
  (kk : AOps P E ops K rest (aupd env d (.own i j)) O') : AOps P E ops K (Oper.mk (some d) (.slice t x none (some y) none) ty pos af none :: rest) env O :=
 AOps.cutTo ht hs hx hy hi (hO.cast (by rw [← hA, List.take_left])) hk (by rw [qj]; omega) kk
end
set_option linter.defProp false
def yj := @GStep.knowP
def yt := @AAny.takeKF
def yv := @AOps.storeL
def yz := @AAny.takeKT
def q0 := @GStep.impC
def q9 := @Gv.loadL
end Go.Proofs.YtbkgklpihnfnjaaGreatDoor
