/- Numbers of digits; names; lists of them. No conditions but bounds. -/
import Derived.Test.YtdkhlgiohpdihaaGreatDoorZe
import Derived.ProofKit
import Derived.OpenShut
import Derived.Deep.Matrix
import Derived.Lib.LaidU8
import Derived.Lib.LaidTab
import Derived.MapKept
import Derived.WideMake
import Derived.Laws.Cover4
import Derived.Test.YtdkhlgiohpdihaaGreatDoorZd
import Derived.Lib.SplitLaws
import Derived.WideLaws
import Derived.Lib.SmallJoins
import Derived.Lib.ParseIntBTie
set_option linter.unusedVariables false
set_option linter.unusedSimpArgs false
set_option linter.unusedSectionVars false
namespace Go.Proofs.YtdkhlgiohpdihaaGreatDoor
open Go.ChangeShapes Go.WideShapes Go.ChangeAt Go.RowKit Go.Deep
def full (W : World) : Ghost := fun b => W.heap[b]?
theorem full_sl (W : World) : SL (full W) [] W W := ⟨rfl, rfl, rfl, fun _ _ h => h, by simp, by simp, by simp, fun _ _ h => h, (fun _ _ h h2 => by rw [show W.heap[_]? = some _ from h] at h2; cases h2), by simp⟩
def I0 (W : World) : G := ⟨full W, fun _ => none⟩
theorem cell_known {W : World} {p : Addr} {v : Value} (h : W.cell? p = some v) : p = ⟨p.block, p.off, none⟩ ∧ KAt (full W) p.block p.off v := by
  unfold World.cell? at h
  split at h
  · rename_i c t f hb
    split at h
    · cases h
    · rename_i hs
      have : p.spot = none := by simpa using hs
      obtain ⟨b, o, s⟩ := p
      simp only at this
      subst this
      exact ⟨rfl, ⟨c, t, f, hb, h⟩⟩
  · cases h
def Dec (P : Program) (W : World) (T : TypeId) {α : Type} (enc : α → List AV) (ok : α → Prop) : Prop :=
  ∀ {H : Type} (e : TypeId × Value → H) (held : Bool) (fuel : Nat) (cs : List Value) (x : DataW H × List MemPlace), DataW.trod e P W 0 (fun _ => true) held fuel T cs = some x → ∃ a, ok a ∧ RepL (I0 W) (enc a) cs
section
variable {P : Program} {W : World} {T e : TypeId}
theorem Dec.int {k : IntKind} (hu : P.underlying T = some (.int k)) : Dec P W T (fun x : Int => [.int k x]) (fun x => (Lit.int k x).wf = true) := fun _ _ _ _ _ h => by
  obtain ⟨n, rfl, _, hw⟩ := DataW.trod_int hu h
  exact ⟨n, hw, _, _, rfl, rfl, rfl⟩
theorem Dec.bool (hu : P.underlying T = some .bool) : Dec P W T (fun x : Bool => [.bool x]) (fun _ => True) := fun _ _ _ _ _ h => by
  obtain ⟨n, rfl, _⟩ := DataW.trod_bool hu h
  exact ⟨n, trivial, _, _, rfl, rfl, rfl⟩
theorem Dec.str (hu : P.underlying T = some .string) : Dec P W T (fun x : ByteArray => [.str x]) (fun x => x.size ≤ maxLen) := fun _ _ _ _ _ h => by
  obtain ⟨n, rfl, _, hw⟩ := DataW.trod_string hu h
  exact ⟨n, hw, _, _, rfl, rfl, rfl⟩
theorem Dec.slice {α : Type} {enc : α → List AV} {ok : α → Prop} {k : Nat} (ht : P.underlying T = some (.slice e)) (he : Dec P W e enc ok) (hk : P.cellsOf e = k) (hk0 : 0 < k) :
    Dec P W T (fun xs : List α => [.fro k (xs.map enc)]) (fun xs => (∀ x ∈ xs, ok x) ∧ xs.length ≤ maxLen) := fun en held fuel cs x h => by
  rcases open_slice ht h with ⟨rfl, _⟩ | ⟨a, len, cap, m, n, D, Pl, rfl, _, hl, hc, hm, _, hr⟩
  · exact ⟨[], ⟨by simp, Nat.zero_le _⟩, _, _, rfl, ⟨none, 0, 0, rfl, rfl, Nat.le_refl _, fun _ => rfl, trivial⟩, rfl⟩
  · simp only [if_true] at hm
    have each : ∀ i, i < len → ∃ y : α, ok y ∧ ∃ vs : List Value, vs.length = k ∧ RepL (I0 W) (enc y) vs ∧ ∀ j (u : Value), vs[j]? = some u → W.cell? (a.add (i * k + j)) = some u := by
      intro i hi
      obtain ⟨cs, h1, h2⟩ := hr i (by omega)
      rw [hk] at h1
      obtain ⟨_, hcl, hat⟩ := World.cells?_some h1
      obtain ⟨y, hy, hrep⟩ := he en held n cs _ h2
      refine ⟨y, hy, cs, hcl, hrep, fun j u hu => ?_⟩
      have hj : j < k := by have := (List.getElem?_eq_some_iff.1 hu).1; omega
      have := hat j hj
      rw [Go.Deep.add_add] at this
      rw [this, hu]
    by_cases h0 : len = 0
    · subst h0
      exact ⟨[], ⟨by simp, Nat.zero_le _⟩, _, _, rfl, ⟨some a, 0, cap, rfl, rfl, Nat.zero_le _, fun h => by (cases h), trivial⟩, rfl⟩
    · obtain ⟨y0, _⟩ := each 0 (by omega)
      have : Inhabited α := ⟨y0⟩
      obtain ⟨Y, hY⟩ := choose_lt each
      have ha : a = ⟨a.block, a.off, none⟩ := by
        obtain ⟨_, vs, hvl, _, hat⟩ := hY 0 (by omega)
        have := hat 0 _ (List.getElem?_eq_getElem (show 0 < vs.length by omega))
        rw [Nat.zero_mul] at this
        exact (cell_known (by simpa [Addr.add] using this)).1
      refine ⟨(List.range len).map Y, ⟨?_, by simp; omega⟩, _, _, rfl, ⟨some a, len, cap, rfl, by simp, hl, fun h => by (cases h), RepR.intro fun j r hj => ?_⟩, rfl⟩
      · intro x hx
        obtain ⟨i, hi, rfl⟩ := List.mem_map.1 hx
        exact (hY i (by simpa using hi)).1
      · rw [List.getElem?_map, List.getElem?_map] at hj
        have hjl : j < len := by
          rcases Nat.lt_or_ge j len with h | h
          · exact h
          · rw [List.getElem?_eq_none (by simpa using h)] at hj; cases hj
        rw [List.getElem?_range hjl] at hj
        simp only [Option.map_some, Option.some.injEq] at hj
        subst hj
        obtain ⟨_, vs, hvl, hrep, hat⟩ := hY j hjl
        refine ⟨a.block, a.off, vs, by rw [← ha], hvl, hrep, fun i u hu => ?_⟩
        have := hat i u hu
        rw [ha, addr_add] at this
        have := (cell_known this).2
        rw [Nat.zero_add, Nat.add_assoc]; exact this
theorem RepL.fld {I : G} {cs : List Value} {e es : List AV} {o k : Nat} (h1 : RepL I e ((cs.drop o).take k)) (h2 : RepL I es (cs.drop (o + k))) : RepL I (e ++ es) (cs.drop o) := by
  have := h1.append h2
  rwa [← List.drop_drop, List.take_append_drop] at this
theorem RepL.fin {I : G} {cs : List Value} {o : Nat} (h : cs.length = o) : RepL I [] (cs.drop o) := List.drop_eq_nil_of_le (by omega)
theorem Dec.at {α : Type} {enc : α → List AV} {ok : α → Prop} {f : Field} {H : Type} {en : TypeId × Value → H} {held : Bool} {n o k i : Nat} {cs : List Value} {xs : List (DataW H × List MemPlace)}
    (h1 : DataW.trod en P W 0 (fun _ => true) held n f.type ((cs.drop f.offset).take (P.cellsOf f.type)) = xs[i]?) (hd : Dec P W f.type enc ok) (h2 : i < xs.length) (ho : f.offset = o) (hk : P.cellsOf f.type = k) :
    ∃ a, ok a ∧ RepL (I0 W) (enc a) ((cs.drop o).take k) := by
  rw [List.getElem?_eq_getElem h2, ho, hk] at h1
  exact hd en held n _ _ h1
theorem Dec.pair {α : Type} {enc : α → List AV} {ok : α → Prop} {k : Nat} (ht : P.underlying T = some (.array 2 e)) (he : Dec P W e enc ok) (hk : P.cellsOf e = k) (hT : P.cellsOf T = k + k) :
    Dec P W T (fun x : α × α => enc x.1 ++ enc x.2) (fun x => ok x.1 ∧ ok x.2) := fun en held fuel cs x h => by
  obtain ⟨xs, m, _, _, hl, hxl, hf⟩ := DataW.trod_array ht h
  have h0 := hf 0 (by omega)
  have h1 := hf 1 (by omega)
  rw [List.getElem?_eq_getElem (by omega), hk] at h0 h1
  rw [Nat.zero_mul] at h0
  rw [Nat.one_mul] at h1
  obtain ⟨a, ha, ra⟩ := he en held m _ _ h0
  obtain ⟨b, hb, rb⟩ := he en held m _ _ h1
  refine ⟨(a, b), ⟨ha, hb⟩, ?_⟩
  have hcl : cs.length = k + k := by rw [hl, hT]
  have h2 : (cs.drop k).take k = cs.drop k := List.take_of_length_le (by rw [List.length_drop]; omega)
  rw [h2] at rb
  have := ra.append rb
  rw [List.drop_zero, List.take_append_drop] at this
  exact this
theorem Dec.map {α β : Type} {enc : α → List AV} {ok : α → Prop} {enc' : β → List AV} {ok' : β → Prop} (h : Dec P W T enc ok) (g : α → β) (he : ∀ a, enc' (g a) = enc a) (hk : ∀ a, ok a → ok' (g a)) : Dec P W T enc' ok' := fun en held fuel cs x hx => by
  obtain ⟨a, h1, h2⟩ := h en held fuel cs x hx
  exact ⟨g a, hk a h1, by rw [he]; exact h2⟩
end
theorem tabIs_of_reads {P : Program} {W : World} {name : String} {k : IntKind} {zs : List Int} {g : Nat} {t e : TypeId} {n : Nat}
    (hg : P.globalNamed name = some g) (hty : (P.globals[g]?).map (·.type) = some t) (ht : P.underlying t = some (.array n e)) (he : P.underlying e = some (.int k)) (hce : P.cellsOf e = 1) (hct : P.cellsOf t = n)
    (h : Lib.VarReads P W name (Lib.tabData k zs)) : Lib.TabIs P W name k zs := by
  obtain ⟨g', t', cs, fuel, p, hg', ht', hvar, hd⟩ := h
  obtain rfl := Option.some.inj (hg.symm.trans hg')
  obtain rfl := Option.some.inj (hty.symm.trans ht')
  unfold Lib.TabIs
  rw [hvar, ← Lib.cells_of_tab ht he hce hct hd]
theorem AFun.call {P : Program} {W : World} {f : FuncId} {us : List AV} {vs : List Value} {r : AV} (h : AFun P W f us r) (hr : RepL (I0 W) us vs) (hp : r.plain = true) : Calls P f vs.toArray W fun e w' => ∃ v, e = .returned v ∧ RepV (I0 W) r v ∧ Below W.heap.size W w' := by
  have := (h (I0 W) [] W vs hr ⟨⟨0, fun _ _ => rfl⟩, [], rfl, full_sl W⟩).2
  refine this.mono fun e w' ⟨v, he, J, x, O', hle, hx, hS, hxr⟩ => ⟨v, he, ?_, ?_⟩
  · subst hxr; exact AV.plain_rep hp hx
  · obtain ⟨_, L, _, hSL⟩ := hS
    exact hSL.belowE
end Go.Proofs.YtdkhlgiohpdihaaGreatDoor
namespace Go.Proofs.YtdkhlgiohpdihaaGreatDoor
def gdiff (J : Ghost) (E : World) : Ghost := fun b => match E.heap[b]? with
  | none => J b
  | some _ => none
theorem gdiff_some {J : Ghost} {E : World} {b : Nat} {o : Obj} (h : gdiff J E b = some o) : E.heap[b]? = none ∧ J b = some o := by
  unfold gdiff at h
  cases hE : E.heap[b]? with
  | none => rw [hE] at h; exact ⟨rfl, h⟩
  | some x => rw [hE] at h; cases h
theorem gdiff_le {I J : Ghost} (E : World) (h : I.le J) : (gdiff I E).le (gdiff J E) := fun b o hb => by
  obtain ⟨h1, h2⟩ := gdiff_some hb
  unfold gdiff
  rw [h1]; exact h _ _ h2
def GD (J : Ghost) (E : World) : G := ⟨gdiff J E, fun _ => none⟩
theorem GD.le {I J : Ghost} (E : World) (h : I.le J) : (GD I E).le (GD J E) := ⟨gdiff_le E h, fun _ _ h => by cases h⟩
def newv (E : World) (x : AV) : AV := .ext fun J v => RepV (GD J E) x v
theorem newv_rep {I : G} {E : World} {x : AV} {v : Value} (h : RepV I (newv E x) v) : RepV (GD I.k E) x v := h.2 _ (.refl _)
def Up (E : World) (xs ys : List AV) : Prop := ∀ (I : G) vs, RepL I xs vs → RepL (GD I.k E) ys vs
theorem Up.nil {E : World} : Up E [] [] := fun _ _ h => h
theorem Up.int {E : World} {k : IntKind} {n : Int} {xs ys : List AV} (h : Up E xs ys) : Up E (.int k n :: xs) (.int k n :: ys) := fun I _ ⟨v, us, e, h1, h2⟩ => ⟨v, us, e, h1, h I us h2⟩
theorem Up.str {E : World} {s : ByteArray} {xs ys : List AV} (h : Up E xs ys) : Up E (.str s :: xs) (.str s :: ys) := fun I _ ⟨v, us, e, h1, h2⟩ => ⟨v, us, e, h1, h I us h2⟩
theorem Up.new {E : World} {x : AV} {xs ys : List AV} (h : Up E xs ys) : Up E (newv E x :: xs) (x :: ys) := fun I _ ⟨v, us, e, h1, h2⟩ => ⟨v, us, e, newv_rep h1, h I us h2⟩
theorem Up.append {E : World} {a b c d : List AV} (h1 : Up E a c) (h2 : Up E b d) : Up E (a ++ b) (c ++ d) := fun I vs h => by
  have e1 := h.take a.length
  have e2 := h.drop a.length
  rw [List.take_left] at e1
  rw [List.drop_left] at e2
  have := (h1 I _ e1).append (h2 I _ e2)
  rwa [List.take_append_drop] at this
theorem Up.map {E : World} {α : Type} {enc enc' : α → List AV} (h : ∀ x, Up E (enc x) (enc' x)) : ∀ l : List α, Up E (l.map enc).flatten (l.map enc').flatten
  | [] => Up.nil
  | x :: l => by simpa using (h x).append (Up.map h l)
section
variable {E : World} {P : Program} {n : Nat} {env : AEnv} {O O' O'' : OL} {i k m : Nat} {T : TypeId} {rows rows' : List (List AV)}
end
section
variable {E : World} {P : Program} {f : FuncId} {us bs : List AV} {r : AV}
theorem RepL.imp {I J : G} {g h : AV → AV} (hi : ∀ c v, RepV I (g c) v → RepV J (h c) v) : ∀ (cs : List AV) (vs : List Value), RepL I (cs.map g) vs → RepL J (cs.map h) vs
  | [], _, e => e
  | _ :: cs, _, ⟨v, us, e, h1, h2⟩ => ⟨v, us, e, hi _ _ h1, RepL.imp hi cs us h2⟩
end
def TurnV (B : Nat) : Value → Value → Prop
  | .int k _, v' => ∃ n, v' = .int k n
  | .string s, v' => ∃ s', v' = .string s' ∧ s'.size ≤ s.size + B
  | v, v' => v' = v
def TurnO (B : Nat) : Obj → Obj → Prop
  | .cells c T _, o' => ∃ c' : Array Value, o' = .cells c' T (0, 0) ∧ c'.size = c.size ∧ ∀ (i : Nat) v, c[i]? = some v → ∃ v', c'[i]? = some v' ∧ TurnV B v v'
  | o, o' => o' = o
def Turned (B : Nat) : List (Nat × Obj) → List (Nat × Obj) → Prop
  | [], L' => L' = []
  | (b, o) :: L, L' => ∃ o' R, L' = (b, o') :: R ∧ TurnO B o o' ∧ Turned B L R
theorem TurnV.refl (B : Nat) (v : Value) : TurnV B v v := by
  cases v <;> first | exact rfl | exact ⟨_, rfl⟩ | exact ⟨_, rfl, Nat.le_add_right _ _⟩
theorem TurnV.more {B B' : Nat} (h : B ≤ B') {v v' : Value} (hv : TurnV B v v') : TurnV B' v v' := by
  cases v <;> first | exact hv | (obtain ⟨s', e, hs⟩ := hv; exact ⟨s', e, by omega⟩)
theorem TurnO.more {B B' : Nat} (h : B ≤ B') {v v' : Obj} (hv : TurnO B v v') : TurnO B' v v' := by
  cases v <;> first | exact hv | (obtain ⟨s', e, hs, h2⟩ := hv; exact ⟨s', e, hs, fun i v hi => let ⟨v', a, b⟩ := h2 i v hi; ⟨v', a, b.more h⟩⟩)
theorem Turned.more {B B' : Nat} (h : B ≤ B') : ∀ {L L' : List (Nat × Obj)}, Turned B L L' → Turned B' L L'
  | [], _, e => e
  | _ :: _, _, ⟨o', R, e, h1, h2⟩ => ⟨o', R, e, h1.more h, Turned.more h h2⟩
theorem Turned.refl (B : Nat) : ∀ {L : List (Nat × Obj)}, (∀ y ∈ L, flatO y.2) → Turned B L L
  | [], _ => rfl
  | (b, o) :: L, h => ⟨o, L, rfl, by
      have := h (b, o) (.head _)
      cases o <;> first | exact rfl | (have this : _ = (0, 0) := this; subst this; exact ⟨_, rfl, rfl, fun i v hv => ⟨v, hv, .refl _ _⟩⟩), Turned.refl B fun y hy => h y (.tail _ hy)⟩
theorem Turned.at {B : Nat} {b : Nat} {c : Array Value} {T : TypeId} {fz : Nat × Nat} : ∀ {L L' : List (Nat × Obj)}, Turned B L L' → L.lookup b = some (.cells c T fz) →
    ∃ c' X Y, L' = X ++ (b, .cells c' T (0, 0)) :: Y ∧ c'.size = c.size ∧ (∀ (i : Nat) v, c[i]? = some v → ∃ v', c'[i]? = some v' ∧ TurnV B v v') ∧
      ∀ B' (c'' : Array Value), B ≤ B' → c''.size = c.size → (∀ (i : Nat) v, c[i]? = some v → ∃ v', c''[i]? = some v' ∧ TurnV B' v v') → Turned B' L (X ++ (b, .cells c'' T (0, 0)) :: Y)
  | [], _, _, h => by cases h
  | (a, o) :: L, L', ⟨o', R, e, h1, h2⟩, h => by
    rw [List.lookup_cons] at h
    cases hb : b == a with
    | true =>
      rw [hb] at h
      cases h
      have hba : b = a := by simpa using hb
      subst hba
      obtain ⟨c', rfl, hs, hc⟩ := h1
      exact ⟨c', [], R, e, hs, hc, fun B' c'' hB hs' hc' => ⟨_, R, rfl, ⟨c'', rfl, hs', hc'⟩, h2.more hB⟩⟩
    | false =>
      rw [hb] at h
      obtain ⟨c', X, Y, rfl, hs, hc, hk⟩ := Turned.at h2 h
      exact ⟨c', (a, o') :: X, Y, e, hs, hc, fun B' c'' hB hs' hc' => ⟨o', _, rfl, h1.more hB, hk B' c'' hB hs' hc'⟩⟩
section
variable {E : World} {P : Program} {n : Nat} {ops : Array Oper} {K : AEnv → OL → Prop} {env : AEnv} {O O' : OL} {rest : List Oper}
variable {d ty : Nat} {pos : String} {af : Array Edge} {t e : TypeId} {x y : Operand} {L : List (Nat × Obj)}
theorem GStep.turn (hP : Put O 0 (.heap (fun L' => L' = L)) (.heap (Turned 0 L)) O') : GStep E env O env O' := fun I F ρ w h1 ⟨ht, L0, hL, hS⟩ => by
  obtain ⟨A, B, hp, hA, hback⟩ := hP.rep hL
  have hA : A = L := hA
  subst hA
  obtain ⟨L', h3, h4⟩ := hback (G.le.refl I) (A' := A) (Turned.refl 0 fun y hy => hS.oflat y (List.mem_append_left _ (hp.mem_iff.2 (List.mem_append_left _ hy))))
  exact ⟨I, .refl _, h1, ht, L', h3, hS.perm ((h4.trans hp.symm).append_right F)⟩
end
end Go.Proofs.YtdkhlgiohpdihaaGreatDoor
namespace Go.Proofs.YtdkhlgiohpdihaaGreatDoor
section
variable {E : World} {P : Program} {n : Nat} {ops : Array Oper} {K : AEnv → OL → Prop} {env : AEnv} {O O' : OL} {rest : List Oper}
variable {d ty : Nat} {pos : String} {af : Array Edge} {t e : TypeId} {x y : Operand}
def noIface : TypeDesc → Bool
  | .interface _ => false
  | _ => true
theorem Gv.mkI {T : TypeId} {D : TypeDesc} {v : AV} (ht : P.underlying T = some D) (hD : noIface D = true) (hx : aev env x = v) : Gv P env O (Oper.mk (some d) (.makeInterface T x) ty pos af none) (.ifc T v) := Gv.ofEv fun I ρ h =>
  ⟨.iface T (ev ρ x), ⟨_, rfl, hx ▸ h.ev x⟩, fun w => by
    simp only [execOp, Instr.makeInterface, Sem.run_bind, run_underlying ht]
    cases D <;> first | rfl | cases hD⟩
theorem Gv.assertT {T X : TypeId} {D : TypeDesc} {v : AV} (ht : P.underlying T = some D) (hD : noIface D = true) (hx : aev env x = .ifc T v) : Gv P env O (Oper.mk (some d) (.typeAssert x X T true) ty pos af none) (.tup [v, .bool true]) := Gv.ofEv fun I ρ h => by
  have h2 := h.ev x
  rw [hx] at h2
  obtain ⟨u, e, h3⟩ := h2
  refine ⟨.tuple #[u, .bool true], ⟨[u, .bool true], rfl, _, _, rfl, h3, _, _, rfl, rfl, rfl⟩, fun w => ?_⟩
  simp only [execOp, Instr.typeAssert, Sem.run_bind, run_underlying ht, e]
  cases D <;> first | (simp; done) | cases hD
theorem Gv.assert1 {T X : TypeId} {D : TypeDesc} {v : AV} (ht : P.underlying T = some D) (hD : noIface D = true) (hx : aev env x = .ifc T v) : Gv P env O (Oper.mk (some d) (.typeAssert x X T false) ty pos af none) v := Gv.ofEv fun I ρ h => by
  have h2 := h.ev x
  rw [hx] at h2
  obtain ⟨u, e, h3⟩ := h2
  refine ⟨u, h3, fun w => ?_⟩
  simp only [execOp, Instr.typeAssert, Sem.run_bind, run_underlying ht, e]
  cases D <;> first | (simp; done) | cases hD
theorem Gv.assertF {T T' X : TypeId} {D : TypeDesc} {v zx : AV} {zv : Value} (ht : P.underlying T = some D) (hD : noIface D = true) (hx : aev env x = .ifc T' v) (hne : ¬ T' = T) (hz : ∀ w, (zeroValue T).run P w = .ok zv w) (hzx : ∀ I, RepV I zx zv) :
    Gv P env O (Oper.mk (some d) (.typeAssert x X T true) ty pos af none) (.tup [zx, .bool false]) := Gv.ofEv fun I ρ h => by
  have h2 := h.ev x
  rw [hx] at h2
  obtain ⟨u, e, h3⟩ := h2
  refine ⟨.tuple #[zv, .bool false], ⟨[zv, .bool false], rfl, _, _, rfl, hzx I, _, _, rfl, rfl, rfl⟩, fun w => ?_⟩
  simp only [execOp, Instr.typeAssert, Sem.run_bind, run_underlying ht, e]
  cases D <;> first | (simp [hne, hz]; done) | cases hD
theorem AOps.callM {f : FuncId} {T : TypeId} {v r : AV} {recv : Operand} {name : String} {args : List Operand} {tys : Array TypeId} {as' : List AV} (hc : AFun P E f (v :: as') r) (hx : aev env recv = .ifc T v)
    (hm : ∀ u w, (method (P.types.size + Made.depth) T u name).run P w = .ok (f, u) w) (ha : args.map (aev env) = as')
    (k : AOps P E ops K rest (aupd env d r) O) : AOps P E ops K (Oper.mk (some d) (.call { callee := .invoke recv name, args := args.toArray, argTypes := tys }) ty pos af none :: rest) env O := fun I F ρ w h1 h2 => by
  have h3 := h1.ev recv
  rw [hx] at h3
  obtain ⟨u, e, h4⟩ := h3
  obtain ⟨L2, hL2, h5⟩ := h2.split (O1 := []) (O2 := O) (.refl _)
  obtain ⟨⟨fn, c, hf, hb, hn⟩, hcalls⟩ := hc I (L2 ++ F) w (u :: args.map (Go.Proofs.YtdkhlgiohpdihaaGreatDoor.ev ρ)) ⟨u, _, rfl, h4, ha ▸ h1.evs args⟩ h5
  refine Ops.step rfl ?_
  unfold OpW
  have : (execOp (Go.Proofs.YtdkhlgiohpdihaaGreatDoor.ev ρ) (Oper.mk (some d) (.call { callee := .invoke recv name, args := args.toArray, argTypes := tys }) ty pos af none)).run P w = .ok (.enter f (u :: args.map (Go.Proofs.YtdkhlgiohpdihaaGreatDoor.ev ρ)).toArray) w := by
    simp [execOp, resolve, invoke, callMethod, e, hm, callFunc, hf, hb, hn]
    exact List.take_of_length_le (by simp)
  rw [this]
  refine hcalls.mono fun e w' ⟨v', h6, J, r', O1', hle, hr, hS, hR⟩ => ⟨v', h6, ?_⟩
  subst hR
  exact Ops.mono (fun _ _ => postK.up hle) _ _ _ (k J F _ _ ((h1.mono hle).upd d hr) ⟨hS.1, L2, hL2.mono hle, hS.drops⟩)
theorem RepR.drop {I : G} {k n c j : Nat} {a : Option Addr} {rows : List (List AV)} (hn : n = rows.length) (hnc : n ≤ c) (hr : RepR I k a 0 rows) : RepR I k (if c = j then a else a.map (·.add (j * k))) 0 (rows.drop j) :=
  RepR.intro fun j' r hj => by
    rw [List.getElem?_drop] at hj
    have hlt := (List.getElem?_eq_some_iff.1 hj).1
    obtain ⟨b, off, vs, rfl, h4, h5, h6⟩ := hr.get hj
    rw [if_neg (by omega)]
    refine ⟨b, off + j * k, vs, by simp [Addr.add], h4, h5, fun i u hu => ?_⟩
    have := h6 i u hu
    rw [Nat.zero_add, Nat.add_mul] at this
    rw [Nat.zero_add]
    rwa [← Nat.add_assoc] at this
theorem RepR.take {I : G} {k j : Nat} {a : Option Addr} {rows : List (List AV)} (hr : RepR I k a 0 rows) : RepR I k a 0 (rows.take j) :=
  RepR.intro fun j' r hj => by
    rw [List.getElem?_take] at hj
    split at hj
    · exact hr.get hj
    · cases hj
theorem Gv.cutLo {k j : Nat} {a : Int} {rows : List (List AV)} (ht : P.underlying t = some (.slice e)) (hs : ∀ w, (sizeOf e).run P w = .ok k w) (hx : aev env x = .fro k rows) (hy : aev env y = .int .i64 a) (hi : a = (j : Int)) (hj : j ≤ rows.length) :
    Gv P env O (Oper.mk (some d) (.slice t x (some y) none none) ty pos af none) (.fro k (rows.drop j)) := Gv.ofEv fun I ρ h => by
  have h2 := h.ev x
  rw [hx] at h2
  obtain ⟨p, n, c, ex, hn, hnc, hnil, hr⟩ := h2
  have h3 := evI h hy
  subst hi
  refine ⟨.slice (if c = j then p else p.map (·.add (j * k))) (n - j) (c - j), ⟨_, _, _, rfl, by rw [List.length_drop, hn], by omega, fun hp => ?_, hr.drop hn hnc⟩, fun w => ?_⟩
  · split at hp
    · omega
    · cases p with
      | none => have := hnil rfl; omega
      | some q => cases hp
  · have hjn : j ≤ n := by omega
    simp [execOp, Instr.sliceAt, Instr.slice, Instr.sliceBounds, Instr.sliceBound, asIntOf, Sem.run_bind, run_underlying ht, hs, ex, h3, hjn]
theorem Gv.cutHi {k j : Nat} {a : Int} {rows : List (List AV)} (ht : P.underlying t = some (.slice e)) (hs : ∀ w, (sizeOf e).run P w = .ok k w) (hx : aev env x = .fro k rows) (hy : aev env y = .int .i64 a) (hi : a = (j : Int)) (hj : j ≤ rows.length) :
    Gv P env O (Oper.mk (some d) (.slice t x none (some y) none) ty pos af none) (.fro k (rows.take j)) := Gv.ofEv fun I ρ h => by
  have h2 := h.ev x
  rw [hx] at h2
  obtain ⟨p, n, c, ex, hn, hnc, hnil, hr⟩ := h2
  have h3 := evI h hy
  subst hi
  refine ⟨.slice (if c = 0 then p else p.map (·.add (0 * k))) (j - 0) (c - 0), ⟨_, _, _, rfl, by rw [List.length_take]; omega, by omega, fun hp => ?_, ?_⟩, fun w => ?_⟩
  · split at hp
    · omega
    · cases p with
      | none => have := hnil rfl; omega
      | some q => cases hp
  · have : (if c = 0 then p else p.map (·.add (0 * k))) = p := by
      split
      · rfl
      · cases p <;> simp [Addr.add]
    rw [this]; exact hr.take
  · have hjn : j ≤ c := by omega
    simp [execOp, Instr.sliceAt, Instr.slice, Instr.sliceBounds, Instr.sliceBound, asIntOf, Sem.run_bind, run_underlying ht, hs, ex, h3, hjn]
theorem Gv.cutLoM {α : Type} {enc : α → List AV} {xs : List α} {k j : Nat} {a : Int} (ht : P.underlying t = some (.slice e)) (hs : ∀ w, (sizeOf e).run P w = .ok k w) (hx : aev env x = .fro k (xs.map enc)) (hy : aev env y = .int .i64 a) (hi : a = (j : Int)) (hj : j ≤ xs.length) :
    Gv P env O (Oper.mk (some d) (.slice t x (some y) none none) ty pos af none) (.fro k ((xs.drop j).map enc)) := by
  have := Gv.cutLo (d := d) (ty := ty) (pos := pos) (af := af) (O := O) ht hs hx hy hi (by rwa [List.length_map])
  rwa [← List.map_drop] at this
theorem Gv.cutHiM {α : Type} {enc : α → List AV} {xs : List α} {k j : Nat} {a : Int} (ht : P.underlying t = some (.slice e)) (hs : ∀ w, (sizeOf e).run P w = .ok k w) (hx : aev env x = .fro k (xs.map enc)) (hy : aev env y = .int .i64 a) (hi : a = (j : Int)) (hj : j ≤ xs.length) :
    Gv P env O (Oper.mk (some d) (.slice t x none (some y) none) ty pos af none) (.fro k ((xs.take j).map enc)) := by
  have := Gv.cutHi (d := d) (ty := ty) (pos := pos) (af := af) (O := O) ht hs hx hy hi (by rwa [List.length_map])
  rwa [← List.map_take] at this
theorem AOps.cut0 {i k m : Nat} {T : TypeId} {cs : List AV} (ht : P.underlying t = some (.slice e)) (hs : ∀ w, (sizeOf e).run P w = .ok k w) (hx : aev env x = .own i m) (hy : aev env y = .int .i64 0) (hO : Put O i (.grow k T cs) (.grow k T []) O')
    (kk : AOps P E ops K rest (aupd env d (.own i 0)) O') : AOps P E ops K (Oper.mk (some d) (.slice t x none (some y) none) ty pos af none :: rest) env O := fun I F ρ w h1 h2 => by
  obtain ⟨htop, L, hL, hS⟩ := h2
  have h3 := h1.ev x
  rw [hx] at h3
  obtain ⟨b, c, e1, e2⟩ := h3
  have h4 := evI h1 hy
  obtain ⟨A, B, hp, ⟨b', c', n', vs, e3, hvs, hvc, h5, h6, h7⟩, hback⟩ := hO.rep hL
  simp only at e3
  rw [e1] at e3
  simp only [Option.some.injEq, Prod.mk.injEq] at e3
  obtain ⟨rfl, rfl⟩ := e3
  have hval : (execOp (Go.Proofs.YtdkhlgiohpdihaaGreatDoor.ev ρ) (Oper.mk (some d) (.slice t x none (some y) none) ty pos af none)).run P w = .ok (.value (.slice (adr b) 0 c)) w := by
    have : (if c = 0 then adr b else (adr b).map (·.add (0 * k))) = adr b := by
      split
      · rfl
      · cases b <;> simp [adr, Addr.add]
    have h0 : (0 : Int) ≤ (c : Int) := by omega
    simp [execOp, Instr.sliceAt, Instr.slice, Instr.sliceBounds, Instr.sliceBound, asIntOf, Sem.run_bind, run_underlying ht, hs, e2, h4, h0]
    simpa using this
  obtain ⟨L', h8, h9⟩ := hback (G.le.refl I) (A' := A) ⟨b, c, 0, [], e1, rfl, by simp, by simp, Nat.zero_le _, by
    rcases h7 with h7 | ⟨b2, junk, e4, e5, e6⟩
    · exact .inl ⟨h7.1, h7.2.1, h7.2.2⟩
    · exact .inr ⟨b2, vs ++ junk, e4, by simpa using e5, by simpa using e6⟩⟩
  exact Ops.val hval (kk I F _ w (h1.upd d ⟨b, c, e1, rfl⟩) ⟨htop, L', h8, hS.perm ((h9.trans hp.symm).append_right F)⟩)
end
end Go.Proofs.YtdkhlgiohpdihaaGreatDoor
namespace Go.Proofs.YtdkhlgiohpdihaaGreatDoor
def mget (s : ByteArray) : List (ByteArray × Int) → Option Int
  | [] => none
  | (k, v) :: es => if s = k then some v else mget s es
def mset (s : ByteArray) (v : Int) : List (ByteArray × Int) → List (ByteArray × Int)
  | [] => [(s, v)]
  | (k, u) :: es => if s = k then (k, v) :: es else (k, u) :: mset s v es
def encME (p : ByteArray × Int) : Value × Value := (.string p.1, .int .i64 p.2)
def mapP (b : Nat) (es : List (ByteArray × Int)) (L : List (Nat × Obj)) : Prop := ∃ (arr : Array MapEntry) (clock : Nat), L = [(b, .map arr clock)] ∧ arr.toList.map (fun e => (e.key, e.val)) = es.map encME
def mapO (b : Nat) (es : List (ByteArray × Int)) : AObj := .heap (mapP b es)
def mref (b : Nat) : AV := .raw (.map (some b))
theorem findNow_none {s : ByteArray} : ∀ {l : List MapEntry} {es : List (ByteArray × Int)} {i : Nat}, l.map (fun e => (e.key, e.val)) = es.map encME → mget s es = none → Instr.findNow .string (.string s) l i = some none
  | [], [], _, _, _ => rfl
  | [], _ :: _, _, h, _ => by cases h
  | _ :: _, [], _, h, _ => by cases h
  | e :: l, (k, v) :: es, i, h, hg => by
    simp only [List.map_cons, List.cons.injEq, encME, Prod.mk.injEq] at h
    obtain ⟨⟨h1, _⟩, h2⟩ := h
    simp only [mget] at hg
    split at hg
    · cases hg
    · rename_i hne
      unfold Instr.findNow
      rw [h1]
      have : (s == k) = false := Bool.eq_false_iff.2 fun h => hne ((MapKept.bytes_beq s k).1 h)
      simp only [Instr.sameNow, this]
      exact findNow_none h2 hg
theorem findNow_some {s : ByteArray} {u : Int} : ∀ {l : List MapEntry} {es : List (ByteArray × Int)} {i : Nat}, l.map (fun e => (e.key, e.val)) = es.map encME → mget s es = some u →
    ∃ j, Instr.findNow .string (.string s) l i = some (some (i + j, .int .i64 u)) ∧ (∃ e, l[j]? = some e ∧ e.key = .string s) ∧ ∀ v, es.set j (s, v) = mset s v es
  | [], [], _, _, hg => by cases hg
  | [], _ :: _, _, h, _ => by cases h
  | _ :: _, [], _, h, _ => by cases h
  | e :: l, (k, v) :: es, i, h, hg => by
    simp only [List.map_cons, List.cons.injEq, encME, Prod.mk.injEq] at h
    obtain ⟨⟨h1, h3⟩, h2⟩ := h
    simp only [mget] at hg
    unfold Instr.findNow
    rw [h1]
    split at hg
    · rename_i heq
      subst heq
      cases hg
      refine ⟨0, ?_, ⟨e, rfl, h1⟩, fun v => ?_⟩
      · have hss : (s == s) = true := (MapKept.bytes_beq s s).2 rfl
        simp only [Instr.sameNow, hss]
        rw [h3]; rfl
      · simp [mset]
    · rename_i hne
      have hb : (s == k) = false := Bool.eq_false_iff.2 fun h => hne ((MapKept.bytes_beq s k).1 h)
      obtain ⟨j, g1, g2, g3⟩ := findNow_some (i := i + 1) h2 hg
      refine ⟨j + 1, ?_, by simpa using g2, fun v => ?_⟩
      · simp only [Instr.sameNow, hb, g1]
        congr 3; omega
      · simp [mset, hne, g3]
section
variable {E : World} {P : Program} {n : Nat} {ops : Array Oper} {K : AEnv → OL → Prop} {env : AEnv} {O O' : OL} {rest : List Oper}
variable {d ty : Nat} {pos : String} {af : Array Edge} {t e kt : TypeId} {x y z : Operand} {b i : Nat} {es : List (ByteArray × Int)}
theorem AOps.makeMap (k : ∀ b, AOps P E ops K rest (aupd env d (mref b)) ((0, mapO b []) :: O)) : AOps P E ops K (Oper.mk (some d) (.makeMap t none) ty pos af none :: rest) env O := fun I F ρ w h1 ⟨ht, L, hL, hS⟩ => by
  refine Ops.step rfl ?_
  unfold OpW
  have : (execOp (Go.Proofs.YtdkhlgiohpdihaaGreatDoor.ev ρ) (Oper.mk (some d) (.makeMap t none) ty pos af none)).run P w = .ok (.value (.map (some w.heap.size))) (w.alloc (.map #[] 0)) := by
    simp only [execOp, Option.map_none]
    rw [Sem.run_bind, run_makeMap_plain]; rfl
  rw [this]
  exact k w.heap.size I F _ _ (h1.upd d rfl) ⟨ht, (w.heap.size, .map #[] 0) :: L, ⟨[_], L, rfl, ⟨#[], 0, rfl, rfl⟩, hL⟩, hS.alloc _⟩
theorem map_in {I : G} {L : List (Nat × Obj)} (hO : Has O i (mapO b es)) (hL : RepOs I O L) : ∃ (arr : Array MapEntry) (clock : Nat), (b, Obj.map arr clock) ∈ L ∧ arr.toList.map (fun e => (e.key, e.val)) = es.map encME := by
  obtain ⟨O', hO⟩ := hO
  obtain ⟨A, B, hp, ⟨arr, clock, rfl, h2⟩, _⟩ := hO.rep hL
  exact ⟨arr, clock, hp.mem_iff.2 (by simp), h2⟩
theorem Gv.lenMap (ht : P.underlying t = some (.map kt e)) (hx : aev env x = mref b) (hO : Has O i (mapO b es)) : Gv P env O (Oper.mk (some d) (.call { callee := .builtin .len, args := #[x], argTypes := #[t] }) ty pos af none) (.int .i64 es.length) := fun I L E ρ h1 hL => by
  obtain ⟨arr, clock, hm, he⟩ := map_in hO hL
  have hx := evRaw h1 hx
  refine ⟨_, rfl, fun w J L' hl hS hin => ?_⟩
  have hb := hS.own _ (hin _ hm)
  simp only at hb
  have hsz : arr.size = es.length := by
    have := congrArg List.length he
    simpa using this
  simp [execOp, resolve, hx, invoke, builtin, Builtin.len_, run_underlying ht, goInt, MapKept.run_getObj_map hb, hsz]
theorem Gv.lookupS {s : ByteArray} (ht : P.underlying t = some (.map kt e)) (hk : P.underlying kt = some .string) (hz : ∀ w, (zeroValue e).run P w = .ok (.int .i64 0) w) (hx : aev env x = mref b) (hy : aev env y = .str s) (hO : Has O i (mapO b es)) :
    Gv P env O (Oper.mk (some d) (.lookup t x y true) ty pos af none) (.tup [.int .i64 ((mget s es).getD 0), .bool (mget s es).isSome]) := fun I L E ρ h1 hL => by
  obtain ⟨arr, clock, hm, he⟩ := map_in hO hL
  have hx := evRaw h1 hx
  have hy := evT h1 hy
  refine ⟨.tuple #[.int .i64 ((mget s es).getD 0), .bool (mget s es).isSome], ⟨[_, _], rfl, _, _, rfl, rfl, _, _, rfl, rfl, rfl⟩, fun w J L' hl hS hin => ?_⟩
  have hb := hS.own _ (hin _ hm)
  simp only at hb
  have hc : (Instr.checkKey arr.isEmpty 10000 kt (.string s)).run P w = .ok () w := MapKept.run_checkKey (k := .string s) hk (by simp [MapKept.IsKey]) _ 9999
  cases hg : mget s es with
  | none =>
    have hf := findNow_none (i := 0) he hg
    simp [execOp, Instr.lookup, run_underlying ht, hx, hy, MapKept.run_getObj_map hb, hc, MapKept.run_findKey hk hf, hz, Result.andThen]
  | some u =>
    obtain ⟨j, hf, _⟩ := findNow_some (i := 0) he hg
    simp [execOp, Instr.lookup, run_underlying ht, hx, hy, MapKept.run_getObj_map hb, hc, MapKept.run_findKey hk hf, Result.andThen]
theorem AOps.mapSet {s : ByteArray} {v : Int} (ht : P.underlying t = some (.map kt e)) (hk : P.underlying kt = some .string) (hx : aev env x = mref b) (hy : aev env y = .str s) (hz : aev env z = .int .i64 v) (hO : Put O i (mapO b es) (mapO b (mset s v es)) O')
    (k : AOps P E ops K rest env O') : AOps P E ops K (Oper.mk none (.mapUpdate t x y z) ty pos af none :: rest) env O := fun I F ρ w h1 ⟨htop, L, hL, hS⟩ => by
  have hx := evRaw h1 hx
  have hy := evT h1 hy
  have hz := evI h1 hz
  obtain ⟨A, B, hp, ⟨arr, clock, rfl, he⟩, hback⟩ := hO.rep hL
  have hS2 : SL I.k ((b, .map arr clock) :: (B ++ F)) E w := hS.perm ((hp.append_right F).symm)
  have hb := hS2.own _ (.head _)
  simp only at hb
  have hc : (Instr.checkKey false 10000 kt (.string s)).run P w = .ok () w := MapKept.run_checkKey (k := .string s) hk (by simp [MapKept.IsKey]) false 9999
  have fin : ∀ (arr' : Array MapEntry) (clock' : Nat), arr'.toList.map (fun e => (e.key, e.val)) = (mset s v es).map encME →
      (execOp (Go.Proofs.YtdkhlgiohpdihaaGreatDoor.ev ρ) (Oper.mk none (.mapUpdate t x y z) ty pos af none)).run P w = .ok .skip { w with heap := w.heap.setIfInBounds b (.map arr' clock') } → Ops P ops (postK I F E K) (Oper.mk none (.mapUpdate t x y z) ty pos af none :: rest) ρ w := fun arr' clock' he' hrun => by
    refine Ops.step rfl ?_
    unfold OpW
    rw [hrun]
    obtain ⟨L', h7, h8⟩ := hback (G.le.refl I) (A' := [(b, .map arr' clock')]) ⟨arr', clock', rfl, he'⟩
    have hh := MapKept.heap_set (o' := .map arr' clock') hb
    have hS3 : SL I.k ((b, .map arr' clock') :: (B ++ F)) E { w with heap := w.heap.setIfInBounds b (.map arr' clock') } := hS2.turn rfl rfl rfl hh.1 hh.2
    exact k I F ρ _ h1 ⟨htop, L', h7, hS3.perm (h8.append_right F)⟩
  cases hg : mget s es with
  | none =>
    have hf := findNow_none (i := 0) he hg
    refine fin (arr.push { key := .string s, val := .int .i64 v, born := clock }) (clock + 1) ?_ ?_
    · have hset : ∀ es : List (ByteArray × Int), mget s es = none → mset s v es = es ++ [(s, v)] := fun es => by
        induction es with
        | nil => intro _; rfl
        | cons x es ih =>
          obtain ⟨k, u⟩ := x
          intro hg
          simp only [mget] at hg
          split at hg
          · cases hg
          · rename_i hne; simp [mset, hne, ih hg]
      rw [hset es hg]
      simp [he, encME]
    · simp [execOp, hx, hy, hz, Instr.mapUpdate, run_underlying ht, MapKept.run_getObj_map hb, hc, MapKept.run_findKey hk hf, MapKept.run_setObj_map _ hb, Result.andThen]
  | some u =>
    obtain ⟨j, hf, ⟨e0, hj, hkey⟩, hset⟩ := findNow_some (i := 0) he hg
    rw [Nat.zero_add] at hf
    have hj' : arr[j]? = some e0 := by rw [← Array.getElem?_toList]; exact hj
    refine fin (arr.modify j fun e => { e with key := .string s, val := .int .i64 v }) clock ?_ ?_
    · rw [← hset v, List.map_set]
      have hjl : j < arr.toList.length := (List.getElem?_eq_some_iff.1 hj).1
      have : (arr.modify j fun e => { e with key := .string s, val := .int .i64 v }).toList = arr.toList.set j { e0 with key := .string s, val := .int .i64 v } := by
        apply List.ext_getElem?
        intro q
        rw [Array.getElem?_toList, Array.getElem?_modify]
        by_cases hq : j = q
        · subst hq
          rw [if_pos rfl, hj', List.getElem?_set_self hjl]; rfl
        · rw [if_neg hq, List.getElem?_set_ne hq, Array.getElem?_toList]
      rw [this, List.map_set, he]; rfl
    · have hkeep : (Instr.keyThatStays (.string s) (.string s)).run P w = .ok (.string s) w := by
        have hss : (s == s) = true := (MapKept.bytes_beq s s).2 rfl
        simp [Instr.keyThatStays, Instr.sameBits, hss]
      simp [execOp, hx, hy, hz, Instr.mapUpdate, run_underlying ht, MapKept.run_getObj_map hb, hc, MapKept.run_findKey hk hf, MapKept.run_setObj_map _ hb, Result.andThen, hj', hkey, hkeep]
def encR (n : Int) : List AV := [.int .i32 n]
theorem repR_map {I : G} : ∀ {ns : List Int} {vs : List Value}, RepL I (ns.map encR).flatten vs → vs = ns.map (Value.int .i32)
  | [], _, h => h
  | m :: ns, _, ⟨v, us, e, h1, h2⟩ => by
    have h1 : v = .int .i32 m := h1
    subst e h1
    simp [repR_map h2]
theorem Gv.runesO {src dst : TypeId} {ns : List Int} {T : TypeId} (hs : P.underlying src = some (.slice e)) (he : P.underlying e = some (.int .i32)) (hd : P.underlying dst = some .string) (hx : aev env x = .own i n) (hO : Has O i (.grow 1 T (ns.map encR).flatten)) (hn : ns.length = n) :
    Gv P env O (Oper.mk (some d) (.convert src dst x) ty pos af none) (.str (runesBytes ns)) := fun I L E ρ h1 hL => by
  have h2 := h1.ev x
  rw [hx] at h2
  obtain ⟨b, c, e1, e2⟩ := h2
  obtain ⟨O', hO⟩ := hO
  obtain ⟨A, B, hp, ⟨b', c', n', vs, e3, hvs, hvc, h5, h6, h7⟩, _⟩ := hO.rep hL
  simp only at e3
  rw [e1] at e3
  simp only [Option.some.injEq, Prod.mk.injEq] at e3
  obtain ⟨rfl, rfl⟩ := e3
  have hv := repR_map hvs
  subst hv
  have hconv : ∀ w : World, (convert src dst (.slice (adr b) n c)).run P w = (Conv.runesToString (.slice (adr b) n c)).run P w := fun w => by
    simp [convert, run_underlying hs, run_underlying hd, run_underlying he]
  refine ⟨_, rfl, fun w J L' hl hS hin => ?_⟩
  rcases h7 with ⟨ea, _, rfl⟩ | ⟨b2, junk, ea, rfl, hj⟩
  · have h0 : ns = [] := by
      have : n' * 1 = 0 := by omega
      exact List.eq_nil_of_length_eq_zero (by simp at h5; omega)
    subst h0
    simp only [execOp, e2]
    rw [Sem.run_bind, hconv, ea]
    simp [Conv.runesToString, runesBytes]
  · have hm : (b2, Obj.cells (ns.map (Value.int .i32) ++ junk).toArray T (0, 0)) ∈ L := hp.mem_iff.2 (by simp)
    have hload : (loadCells (⟨b2, 0, none⟩ : Addr) n).run P w = .ok (ns.map (Value.int .i32)).toArray w := by
      have := run_loadCells_list (P := P) w (⟨b2, 0, none⟩ : Addr) (ns.map (Value.int .i32)) (fun j v hj => by
        have := hS.at_ (b := b2) (i := j) (v := v) (.inr ⟨_, _, _, hin _ hm, by
          rw [List.getElem?_toArray, List.getElem?_append_left (List.getElem?_eq_some_iff.1 hj).1]; exact hj⟩)
        have ha : (⟨b2, 0, none⟩ : Addr).add j = ⟨b2, j, none⟩ := by
          rw [addr_add]; simp
        rw [ha]; exact this)
      rw [List.length_map, hn] at this
      exact this
    simp only [execOp, e2]
    rw [Sem.run_bind, hconv, ea, run_runesToString w _ n c ns hload]; rfl
end
end Go.Proofs.YtdkhlgiohpdihaaGreatDoor
namespace Go.Proofs.YtdkhlgiohpdihaaGreatDoor
section
variable {E : World} {P : Program} {n : Nat} {ops : Array Oper} {K : AEnv → OL → Prop} {env : AEnv} {O O' : OL} {rest : List Oper} {R : AV → OL → Prop}
variable {d ty : Nat} {pos : String} {af : Array Edge} {t e : TypeId} {x y : Operand}
theorem afin.c1t {t u T i : Nat} {T' : TypeId} {cs : List AV} {n : Nat} {y : AV} (hv : env t = .po i 0) (hu : env u = y) (hO : Has O i (.cells T' cs)) (ha : ∀ w, (isAgg T).run P w = .ok true w) (hs : ∀ w, (sizeOf T).run P w = .ok n w) (hn : cs.length = n) (h : R (.tup [.agg cs, y]) O) :
    afin P E #[.cell t T, .tmp u] R .ret env O := afin.of (x := .tup [.agg cs, y]) (fun I F ρ w h1 h2 => by
  obtain ⟨L, hL, hS⟩ := h2.2
  have h3 := h1 t
  rw [hv] at h3
  obtain ⟨b, c, e1, e⟩ := h3
  obtain ⟨b', c', vs, e2, h4, hm⟩ := hO.cells hL
  rw [e1] at e2; cases e2
  have hl := run_loadVar_agg (P := P) (w := w) (b := b) (off := 0) ha (cs := vs) (by rw [h4.length, hn]; exact hs) (fun j v hj => by
    rw [Nat.zero_add]
    exact hS.at_ (.inr ⟨_, _, _, List.mem_append_left _ hm, by rw [List.getElem?_toArray]; exact hj⟩))
  exact ⟨.tuple #[.agg vs.toArray, ρ u], by simp [resE, e, asAddr, hl], ⟨[_, _], rfl, _, _, rfl, ⟨vs, rfl, h4⟩, _, _, rfl, hu ▸ h1 u, rfl⟩⟩) h
theorem run_storeRow {b off n : Nat} {vs : List Value} {T : TypeId} {old : List Value} {w : World} (hn : vs.length = n) (h1c : ∀ u ∈ vs, u.oneCell' = true) (hb : off + n ≤ old.length) (hown : w.heap[b]? = some (.cells old.toArray T (0, 0))) :
    (storeCells (⟨b, off, none⟩ : Addr) vs 0).run P w = .ok () (w.setRow b (old.take off ++ vs ++ old.drop (off + n)).toArray) := by
  rw [run_storeCells_at (P := P) b off T vs 0 old.toArray w hown (by simp; omega) h1c]
  simp [hn]
theorem Gv.cutArr {i off m : Nat} (ht : P.underlying t = some (.array m e)) (hs : ∀ w, (sizeOf e).run P w = .ok n w) (hm : m ≠ 0) (hx : aev env x = .po i off) : Gv P env O (Oper.mk (some d) (.slice t x none none none) ty pos af none) (.os i off m) := Gv.ofEv fun I ρ h => by
  have h2 := h.ev x
  rw [hx] at h2
  obtain ⟨b, c, e1, e2⟩ := h2
  refine ⟨.slice (some ⟨b, off, none⟩) m m, ⟨b, c, e1, rfl⟩, fun w => ?_⟩
  simp [execOp, Instr.sliceAt, Instr.sliceBounds, Sem.run_bind, run_underlying ht, hs, e2, Instr.sureAddr, hm, Addr.add]
theorem repI_map {I : G} {k : IntKind} {a : Option Addr} : ∀ {xs : List Int} {j : Nat}, RepR I 1 a j (xs.map fun x => [.int k x]) → ∀ (i : Nat) (x : Int), xs[i]? = some x → ∃ b off, a = some ⟨b, off, none⟩ ∧ KAt I.k b (off + (j + i)) (.int k x) := fun {xs j} h i x hx => by
  obtain ⟨b, off, vs, ea, h1, ⟨v, us, e, h2, h3⟩, h4⟩ := h.get (j := i) (r := [.int k x]) (by rw [List.getElem?_map, hx]; rfl)
  have h2 : v = .int k x := h2
  subst e h2
  have := h4 0 _ rfl
  rw [Nat.mul_one, Nat.add_zero] at this
  exact ⟨b, off, ea, this⟩
theorem AOps.copyA {i off m : Nat} {T : TypeId} {k : IntKind} {xs : List Int} {cs new : List AV} {ty2 : TypeId} (ht : P.underlying t = some (.slice e)) (hs : ∀ w, (sizeOf e).run P w = .ok 1 w) (hx : aev env x = .os i off m) (hy : aev env y = .fro 1 (xs.map fun x => [.int k x])) (hl : xs.length ≤ m)
    (hO : Put O i (.cells T cs) (.cells T new) O') (hb : off + xs.length ≤ cs.length) (hnew : cs.take off ++ xs.map (AV.int k) ++ cs.drop (off + xs.length) = new) (kk : AOps P E ops K rest (aupd env d (.int .i64 xs.length)) O') :
    AOps P E ops K (Oper.mk (some d) (.call { callee := .builtin .copy, args := #[x, y], argTypes := #[t, ty2] }) ty pos af none :: rest) env O := fun I F ρ w h1 h2 => by
  obtain ⟨htop, L, hL, hS⟩ := h2
  have h3 := h1.ev x
  rw [hx] at h3
  obtain ⟨b, c, e1, ex⟩ := h3
  have h4 := h1.ev y
  rw [hy] at h4
  obtain ⟨a, q, c2, ey, hq, hqc, hnil, hr⟩ := h4
  rw [List.length_map] at hq
  subst hq
  obtain ⟨A, B, hp, ⟨b', c', vs, e2, h6, h6c, rfl⟩, hback⟩ := hO.rep hL
  rw [e1] at e2; cases e2
  have hS2 : SL I.k ((b, .cells vs.toArray T (0, 0)) :: (B ++ F)) E w := hS.perm ((hp.append_right F).symm)
  have hvl := h6.length
  have hmin : Nat.min xs.length m = xs.length := Nat.min_eq_left hl
  have hst := run_storeRow (P := P) (w := w) (b := b) (off := off) (n := xs.length) (T := T) (old := vs) (vs := xs.map (Value.int k)) (by simp) (fun u hu => by obtain ⟨_, _, rfl⟩ := List.mem_map.1 hu; rfl) (by omega) (hS2.own _ (.head _))
  have hfc : ((Builtin.firstCells 1 xs.length (.slice a xs.length c2)).run P w) = .ok (xs.map (Value.int k)).toArray w := by
    cases a with
    | none =>
      have := hnil rfl
      have h0 : xs = [] := List.eq_nil_of_length_eq_zero (by omega)
      subst h0
      simp [Builtin.firstCells]
    | some p =>
      cases hxs : xs with
      | nil => simp [Builtin.firstCells, loadCells, loadCellsFrom]
      | cons x0 xs0 =>
        obtain ⟨b2, off2, ep, _⟩ := repI_map hr 0 x0 (by rw [hxs]; rfl)
        cases ep
        have := run_loadCells_list (P := P) w (⟨b2, off2, none⟩ : Addr) (xs.map (Value.int k)) (fun j v hj => by
          rw [List.getElem?_map] at hj
          obtain ⟨z, hz, rfl⟩ := Option.map_eq_some_iff.1 hj
          obtain ⟨b3, off3, ep, hk⟩ := repI_map hr j z hz
          cases ep
          rw [addr_add]
          rw [Nat.zero_add] at hk
          exact hS.at_ (hk.at_ _))
        rw [← hxs]
        simp only [Builtin.firstCells, Nat.mul_one]
        rw [List.length_map] at this
        exact this
  refine Ops.step rfl ?_
  unfold OpW
  have : (execOp (Go.Proofs.YtdkhlgiohpdihaaGreatDoor.ev ρ) (Oper.mk (some d) (.call { callee := .builtin .copy, args := #[x, y], argTypes := #[t, ty2] }) ty pos af none)).run P w = .ok (.value (.int .i64 xs.length)) (w.setRow b (vs.take off ++ xs.map (Value.int k) ++ vs.drop (off + xs.length)).toArray) := by
    simp [execOp, resolve, ex, ey, invoke, builtin, Builtin.copy_, run_underlying ht, hs, Builtin.lenOf, hmin, hfc, hst, goInt, Result.andThen]
  rw [this]
  have hints : RepL I (xs.map (AV.int k)) (xs.map (Value.int k)) := by
    clear hnew hr hl hb hmin hst hfc this ey hqc kk hy
    induction xs with
    | nil => rfl
    | cons z zs ih => exact ⟨_, _, rfl, rfl, ih⟩
  have hnr : RepL I new (vs.take off ++ xs.map (Value.int k) ++ vs.drop (off + xs.length)) := hnew ▸ ((h6.take off).append hints).append (h6.drop (off + xs.length))
  obtain ⟨L', h7, h8⟩ := hback (G.le.refl I) (A' := [(b, .cells (vs.take off ++ xs.map (Value.int k) ++ vs.drop (off + xs.length)).toArray T (0, 0))]) ⟨b, c, _, e1, hnr, by
    intro u hu
    simp only [List.mem_append] at hu
    rcases hu with (hu | hu) | hu
    · exact h6c u (List.mem_of_mem_take hu)
    · obtain ⟨_, _, rfl⟩ := List.mem_map.1 hu; rfl
    · exact h6c u (List.mem_of_mem_drop hu), rfl⟩
  exact kk I F _ _ (h1.upd d rfl) ⟨htop, L', h7, (hS2.turn1).perm (h8.append_right F)⟩
end
end Go.Proofs.YtdkhlgiohpdihaaGreatDoor
namespace Go.Proofs.YtdkhlgiohpdihaaGreatDoor
open Go.Proofs Go.Lib Go.Shelf Go.RowKit
set_option maxRecDepth 20000
variable {E : World}
def letterC (c : Int) : Bool := isLetterU c && !decide (c = 65533)
def digitC (c : Int) : Bool := decide (48 ≤ c) && decide (c ≤ 57)
def innerC (c : Int) : Bool := letterC c || (digitC c || (decide (c = 46) || decide (c = 95)))
theorem zletter_spec (c : Int) (h1 : -2147483648 ≤ c) (h2 : c ≤ 2147483647) (hL : Letters E) : AFun Tryz.prog E 98 [.int .i32 c] (.bool (letterC c)) := by
  refine ACall.intro Tryz.func98 rfl (by decide) rfl ?_
  refine AWP.seq ?_
  refine AWP.region rfl ?_
  refine AOps.val (Gv.assign (v := .bool _) rfl) ?_
  refine AOps.nil ?_
  refine AWP.seq ?_
  refine AWP.region rfl ?_
  refine AOps.val (Gv.move (v := .int _ _) rfl) ?_
  refine AOps.callP (letter_spec c h1 h2 hL) rfl ?_
  refine AOps.val (Gv.move (v := .bool _) rfl) ?_
  refine AOps.case (s := 5) rfl (fun c1 => ?_) (fun c1 => ?_)
  · skip
    refine AOps.guardT rfl rfl c1 ?_
    refine AOps.val (Gv.move (v := .int _ _) rfl) ?_
    refine AOps.guardT rfl rfl c1 ?_
    refine AOps.val (Gv.neqI rfl rfl) ?_
    refine AOps.val (Gv.pickT (v := .bool _) rfl c1 rfl) ?_
    refine AOps.val (Gv.assign (v := .bool _) rfl) ?_
    refine AOps.nil ?_
    refine AWP.ret ?_
    repeat (first | refine aseqQ_ret ?_ | refine ablockQ_ret ?_)
    refine afin.t1 (x := .bool _) rfl ?_
    exact jb (by simp_all [letterC])
  · skip
    refine AOps.guardFd rfl rfl c1 ?_
    refine AOps.guardFd rfl rfl c1 ?_
    refine AOps.val (Gv.pickF (v := .bool _) rfl c1 rfl) ?_
    refine AOps.val (Gv.assign (v := .bool _) rfl) ?_
    refine AOps.nil ?_
    refine AWP.ret ?_
    repeat (first | refine aseqQ_ret ?_ | refine ablockQ_ret ?_)
    refine afin.t1 (x := .bool _) rfl ?_
    exact jb (by simp_all [letterC])
theorem zdigit_spec (c : Int) : AFun Tryz.prog E 116 [.int .i32 c] (.bool (digitC c)) := by
  refine ACall.intro Tryz.func116 rfl (by decide) rfl ?_
  refine AWP.seq ?_
  refine AWP.region rfl ?_
  refine AOps.val (Gv.assign (v := .bool _) rfl) ?_
  refine AOps.nil ?_
  refine AWP.seq ?_
  refine AWP.region rfl ?_
  refine AOps.val (Gv.move (v := .int _ _) rfl) ?_
  refine AOps.val (Gv.geq rfl rfl) ?_
  refine AOps.val (Gv.move (v := .bool _) rfl) ?_
  refine AOps.case (s := 5) rfl (fun c2 => ?_) (fun c2 => ?_)
  · skip
    refine AOps.guardT rfl rfl c2 ?_
    refine AOps.val (Gv.move (v := .int _ _) rfl) ?_
    refine AOps.guardT rfl rfl c2 ?_
    refine AOps.val (Gv.leq rfl rfl) ?_
    refine AOps.val (Gv.pickT (v := .bool _) rfl c2 rfl) ?_
    refine AOps.val (Gv.assign (v := .bool _) rfl) ?_
    refine AOps.nil ?_
    refine AWP.ret ?_
    repeat (first | refine aseqQ_ret ?_ | refine ablockQ_ret ?_)
    refine afin.t1 (x := .bool _) rfl ?_
    exact jb (by simp_all [digitC] <;> (intros; omega))
  · skip
    refine AOps.guardFd rfl rfl c2 ?_
    refine AOps.guardFd rfl rfl c2 ?_
    refine AOps.val (Gv.pickF (v := .bool _) rfl c2 rfl) ?_
    refine AOps.val (Gv.assign (v := .bool _) rfl) ?_
    refine AOps.nil ?_
    refine AWP.ret ?_
    repeat (first | refine aseqQ_ret ?_ | refine ablockQ_ret ?_)
    refine afin.t1 (x := .bool _) rfl ?_
    exact jb (by simp_all [digitC] <;> (intros; omega))
theorem zinner_spec (c : Int) (h1 : -2147483648 ≤ c) (h2 : c ≤ 2147483647) (hL : Letters E) : AFun Tryz.prog E 99 [.int .i32 c] (.bool (innerC c)) := by
  refine ACall.intro Tryz.func99 rfl (by decide) rfl ?_
  refine AWP.seq ?_
  refine AWP.region rfl ?_
  refine AOps.val (Gv.assign (v := .bool _) rfl) ?_
  refine AOps.nil ?_
  refine AWP.seq ?_
  refine AWP.region rfl ?_
  refine AOps.val (Gv.move (v := .int _ _) rfl) ?_
  refine AOps.callP (zletter_spec c h1 h2 hL) rfl ?_
  refine AOps.val (Gv.move (v := .bool _) rfl) ?_
  refine AOps.case (s := 5) rfl (fun c3 => ?_) (fun c3 => ?_)
  · skip
    refine AOps.guardFd rfl rfl c3 ?_
    refine AOps.guardFd rfl rfl c3 ?_
    refine AOps.val (Gv.pickT (v := .bool _) rfl c3 rfl) ?_
    refine AOps.val (Gv.move (v := .bool _) rfl) ?_
    refine AOps.guardFd rfl rfl rfl ?_
    refine AOps.guardFd rfl rfl rfl ?_
    refine AOps.val (Gv.pickT (v := .bool _) rfl rfl rfl) ?_
    refine AOps.val (Gv.move (v := .bool _) rfl) ?_
    refine AOps.guardFd rfl rfl rfl ?_
    refine AOps.guardFd rfl rfl rfl ?_
    refine AOps.val (Gv.pickT (v := .bool _) rfl rfl rfl) ?_
    refine AOps.val (Gv.assign (v := .bool _) rfl) ?_
    refine AOps.nil ?_
    refine AWP.ret ?_
    repeat (first | refine aseqQ_ret ?_ | refine ablockQ_ret ?_)
    refine afin.t1 (x := .bool _) rfl ?_
    exact jb (by simp_all [innerC])
  · skip
    refine AOps.guardT rfl rfl c3 ?_
    refine AOps.val (Gv.move (v := .int _ _) rfl) ?_
    refine AOps.guardT rfl rfl c3 ?_
    refine AOps.callP (zdigit_spec _) rfl ?_
    refine AOps.val (Gv.pickF (v := .bool _) rfl c3 rfl) ?_
    refine AOps.val (Gv.move (v := .bool _) rfl) ?_
    refine AOps.case (s := 9) rfl (fun c4 => ?_) (fun c4 => ?_)
    · skip
      refine AOps.guardFd rfl rfl c4 ?_
      refine AOps.guardFd rfl rfl c4 ?_
      refine AOps.val (Gv.pickT (v := .bool _) rfl c4 rfl) ?_
      refine AOps.val (Gv.move (v := .bool _) rfl) ?_
      refine AOps.guardFd rfl rfl rfl ?_
      refine AOps.guardFd rfl rfl rfl ?_
      refine AOps.val (Gv.pickT (v := .bool _) rfl rfl rfl) ?_
      refine AOps.val (Gv.assign (v := .bool _) rfl) ?_
      refine AOps.nil ?_
      refine AWP.ret ?_
      repeat (first | refine aseqQ_ret ?_ | refine ablockQ_ret ?_)
      refine afin.t1 (x := .bool _) rfl ?_
      exact jb (by simp_all [innerC])
    · skip
      refine AOps.guardT rfl rfl c4 ?_
      refine AOps.val (Gv.move (v := .int _ _) rfl) ?_
      refine AOps.guardT rfl rfl c4 ?_
      refine AOps.val (Gv.eqlI rfl rfl) ?_
      refine AOps.val (Gv.pickF (v := .bool _) rfl c4 rfl) ?_
      refine AOps.val (Gv.move (v := .bool _) rfl) ?_
      refine AOps.case (s := 13) rfl (fun c5 => ?_) (fun c5 => ?_)
      · skip
        refine AOps.guardFd rfl rfl c5 ?_
        refine AOps.guardFd rfl rfl c5 ?_
        refine AOps.val (Gv.pickT (v := .bool _) rfl c5 rfl) ?_
        refine AOps.val (Gv.assign (v := .bool _) rfl) ?_
        refine AOps.nil ?_
        refine AWP.ret ?_
        repeat (first | refine aseqQ_ret ?_ | refine ablockQ_ret ?_)
        refine afin.t1 (x := .bool _) rfl ?_
        exact jb (by simp_all [innerC])
      · skip
        refine AOps.guardT rfl rfl c5 ?_
        refine AOps.val (Gv.move (v := .int _ _) rfl) ?_
        refine AOps.guardT rfl rfl c5 ?_
        refine AOps.val (Gv.eqlI rfl rfl) ?_
        refine AOps.val (Gv.pickF (v := .bool _) rfl c5 rfl) ?_
        refine AOps.val (Gv.assign (v := .bool _) rfl) ?_
        refine AOps.nil ?_
        refine AWP.ret ?_
        repeat (first | refine aseqQ_ret ?_ | refine ablockQ_ret ?_)
        refine afin.t1 (x := .bool _) rfl ?_
        exact jb (by simp_all [innerC])
def runesFrom (s : ByteArray) (p : Nat) : List Int := if h : p < s.size then ((Utf8.decode s p).1 : Int) :: runesFrom s (p + (Utf8.decode s p).2) else []
termination_by s.size - p
decreasing_by have := (decode_ok s p).1; omega
theorem runesFrom_lt {s : ByteArray} {p : Nat} (h : p < s.size) : runesFrom s p = ((Utf8.decode s p).1 : Int) :: runesFrom s (p + (Utf8.decode s p).2) := by rw [runesFrom, dif_pos h]
theorem runesFrom_ge {s : ByteArray} {p : Nat} (h : ¬ p < s.size) : runesFrom s p = [] := by rw [runesFrom, dif_neg h]
theorem runesFrom_len (s : ByteArray) : ∀ k p, s.size - p ≤ k → (runesFrom s p).length ≤ k := by
  intro k
  induction k with
  | zero => intro p h; rw [runesFrom_ge (by omega)]; simp
  | succ k ih =>
    intro p h
    by_cases hp : p < s.size
    · rw [runesFrom_lt hp]
      have := (decode_ok s p).1
      have := ih (p + (Utf8.decode s p).2) (by omega)
      simp; omega
    · rw [runesFrom_ge hp]; simp
theorem runes_spec (s : ByteArray) (hs : s.size ≤ 140737488355328) : AFun Tryz.prog E 100 [.str s] (.int .i64 (runesFrom s 0).length) := by
  have h0 := runesFrom_len s s.size 0 (by omega)
  refine ACall.intro Tryz.func100 rfl (by decide) rfl ?_
  refine AWP.seq ?_
  refine AWP.region rfl ?_
  refine AOps.val (Gv.assign (v := .int _ _) rfl) ?_
  refine AOps.nil ?_
  refine AWP.seq ?_
  refine AWP.region rfl ?_
  refine AOps.val (Gv.assign (v := .int _ _) rfl) ?_
  refine AOps.nil ?_
  refine AWP.seq ?_
  refine AWP.seq ?_
  refine AWP.region rfl ?_
  refine AOps.val (Gv.move (v := .str _) rfl) ?_
  refine AOps.rangeT Tryz.underlying9 rfl ?_
  intro i5
  refine AOps.nil ?_
  refine AWP.block ?_
  refine AWP.loop (γ := Nat × Nat) [5] (fun g => [(3, .int .i64 g.2)]) (fun g => [(i5, .iter s g.1)]) (fun g => g.2 + (runesFrom s g.1).length = (runesFrom s 0).length) (fun g => s.size - g.1) (0, 0) ⟨rfl, trivial⟩ ⟨_, (.refl _), rfl⟩ (by simp) ?_
  rintro ⟨p, n⟩ hp
  try dsimp only at *
  by_cases hlt : p < s.size
  · skip
    have hd := (decode_ok s p).1
    rw [runesFrom_lt hlt] at hp
    simp only [List.length_cons] at hp
    refine AWP.seq ?_
    refine AWP.region rfl ?_
    refine AOps.nextT rfl .head hlt ?_
    refine AOps.val (Gv.extract (v := .bool _) rfl rfl) ?_
    refine AOps.nil ?_
    refine AWP.seq ?_
    refine AWP.condT rfl rfl ?_
    refine AWP.skip ?_
    refine AWP.block ?_
    refine AWP.region rfl ?_
    refine AOps.val (Gv.move (v := .int _ _) rfl) ?_
    refine AOps.val (Gv.add rfl rfl (by unfold I64; omega)) ?_
    refine AOps.val (Gv.assign (v := .int _ _) rfl) ?_
    refine AOps.nil ?_
    exact ⟨(p + (Utf8.decode s p).2, n + 1), ⟨rfl, trivial⟩, ⟨rfl, trivial⟩, ⟨_, (.refl _), rfl⟩, by dsimp only; omega, by dsimp only; omega⟩
  · skip
    rw [runesFrom_ge hlt] at hp
    simp only [List.length_nil] at hp
    refine AWP.seq ?_
    refine AWP.region rfl ?_
    refine AOps.nextTover rfl .head hlt ?_
    refine AOps.val (Gv.extract (v := .bool _) rfl rfl) ?_
    refine AOps.nil ?_
    refine AWP.seq ?_
    refine AWP.condF rfl rfl ?_
    refine AWP.exit ?_
    refine AWP.seq ?_
    refine AWP.region rfl ?_
    refine AOps.val (Gv.move (v := .int _ _) rfl) ?_
    refine AOps.val (Gv.assign (v := .int _ _) rfl) ?_
    refine AOps.nil ?_
    refine AWP.ret ?_
    repeat (first | refine aseqQ_ret ?_ | refine ablockQ_ret ?_)
    refine afin.t1 (x := .int _ _) rfl ?_
    exact congrArg (AV.int .i64) (by omega)
def nmGo (s : ByteArray) (p : Nat) : Bool := if h : p < s.size then (if (decide (p = 0) && !letterC ((Utf8.decode s p).1 : Int)) || !innerC ((Utf8.decode s p).1 : Int) then false else nmGo s (p + (Utf8.decode s p).2)) else (decide (¬ s = ⟨#[]⟩) && decide (((runesFrom s 0).length : Int) ≤ 16))
termination_by s.size - p
decreasing_by have := (decode_ok s p).1; omega
def scanName (s : ByteArray) : Bool := nmGo s 0
theorem zname_spec (s : ByteArray) (hs : s.size ≤ 140737488355328) (hL : Letters E) : AFun Tryz.prog E 78 [.str s] (.bool (scanName s)) := by
  refine ACall.intro Tryz.func78 rfl (by decide) rfl ?_
  refine AWP.seq ?_
  refine AWP.region rfl ?_
  refine AOps.val (Gv.assign (v := .bool _) rfl) ?_
  refine AOps.nil ?_
  refine AWP.seq ?_
  refine AWP.seq ?_
  refine AWP.region rfl ?_
  refine AOps.val (Gv.move (v := .str _) rfl) ?_
  refine AOps.rangeT Tryz.underlying9 rfl ?_
  intro i6
  refine AOps.nil ?_
  refine AWP.block ?_
  refine AWP.loop (γ := Nat) [0, 6] (fun p => []) (fun p => [(i6, .iter s p)]) (fun p => nmGo s p = scanName s) (fun p => s.size - p) 0 trivial ⟨_, (.refl _), rfl⟩ (rfl) ?_
  rintro p hp
  by_cases hlt : p < s.size
  · skip
    obtain ⟨hd1, hd2⟩ := decode_ok s p
    have hstep := hp
    rw [nmGo, dif_pos hlt] at hstep
    refine AWP.seq ?_
    refine AWP.region rfl ?_
    refine AOps.nextT rfl .head hlt ?_
    refine AOps.val (Gv.extract (v := .bool _) rfl rfl) ?_
    refine AOps.nil ?_
    refine AWP.seq ?_
    refine AWP.condT rfl rfl ?_
    refine AWP.skip ?_
    refine AWP.block ?_
    refine AWP.seq ?_
    refine AWP.region rfl ?_
    refine AOps.val (Gv.extract (v := .int _ _) rfl rfl) ?_
    refine AOps.val (Gv.extract (v := .int _ _) rfl rfl) ?_
    refine AOps.val (Gv.assign (v := .int _ _) rfl) ?_
    refine AOps.val (Gv.assign (v := .int _ _) rfl) ?_
    refine AOps.nil ?_
    refine AWP.seq ?_
    refine AWP.region rfl ?_
    refine AOps.val (Gv.move (v := .int _ _) rfl) ?_
    refine AOps.val (Gv.eqlI rfl rfl) ?_
    refine AOps.val (Gv.move (v := .bool _) rfl) ?_
    refine AOps.case (s := 13) rfl (fun c6 => ?_) (fun c6 => ?_)
    · skip
      refine AOps.guardT rfl rfl c6 ?_
      refine AOps.val (Gv.move (v := .int _ _) rfl) ?_
      refine AOps.guardT rfl rfl c6 ?_
      refine AOps.callP (zletter_spec _ (by omega) (by omega) hL) rfl ?_
      refine AOps.guardT rfl rfl c6 ?_
      refine AOps.val (Gv.not rfl) ?_
      refine AOps.val (Gv.pickT (v := .bool _) rfl c6 rfl) ?_
      refine AOps.val (Gv.move (v := .bool _) rfl) ?_
      refine AOps.case (s := 18) rfl (fun c7 => ?_) (fun c7 => ?_)
      · skip
        refine AOps.guardFd rfl rfl c7 ?_
        refine AOps.guardFd rfl rfl c7 ?_
        refine AOps.guardFd rfl rfl c7 ?_
        refine AOps.val (Gv.pickT (v := .bool _) rfl c7 rfl) ?_
        refine AOps.nil ?_
        refine AWP.condT rfl rfl ?_
        refine AWP.seq ?_
        refine AWP.region rfl ?_
        refine AOps.val (Gv.assign (v := .bool _) rfl) ?_
        refine AOps.nil ?_
        refine AWP.ret ?_
        repeat (first | refine aseqQ_ret ?_ | refine ablockQ_ret ?_)
        refine afin.t1 (x := .bool _) rfl ?_
        rw [if_pos (by simp_all <;> omega)] at hstep; exact jb hstep
      · skip
        refine AOps.guardT rfl rfl c7 ?_
        refine AOps.val (Gv.move (v := .int _ _) rfl) ?_
        refine AOps.guardT rfl rfl c7 ?_
        refine AOps.callP (zinner_spec _ (by omega) (by omega) hL) rfl ?_
        refine AOps.guardT rfl rfl c7 ?_
        refine AOps.val (Gv.not rfl) ?_
        refine AOps.val (Gv.pickF (v := .bool _) rfl c7 rfl) ?_
        refine AOps.nil ?_
        refine AWP.cond rfl (fun c8 => ?_) (fun c8 => ?_)
        · skip
          refine AWP.seq ?_
          refine AWP.region rfl ?_
          refine AOps.val (Gv.assign (v := .bool _) rfl) ?_
          refine AOps.nil ?_
          refine AWP.ret ?_
          repeat (first | refine aseqQ_ret ?_ | refine ablockQ_ret ?_)
          refine afin.t1 (x := .bool _) rfl ?_
          rw [if_pos (by simp_all <;> omega)] at hstep; exact jb hstep
        · skip
          refine AWP.skip ?_
          exact ⟨p + (Utf8.decode s p).2, ⟨rfl, rfl, trivial⟩, trivial, ⟨_, (.refl _), rfl⟩, by rw [if_neg (by simp_all <;> omega)] at hstep; exact hstep, by omega⟩
    · skip
      refine AOps.guardFd rfl rfl c6 ?_
      refine AOps.guardFd rfl rfl c6 ?_
      refine AOps.guardFd rfl rfl c6 ?_
      refine AOps.val (Gv.pickF (v := .bool _) rfl c6 rfl) ?_
      refine AOps.val (Gv.move (v := .bool _) rfl) ?_
      refine AOps.guardT rfl rfl rfl ?_
      refine AOps.val (Gv.move (v := .int _ _) rfl) ?_
      refine AOps.guardT rfl rfl rfl ?_
      refine AOps.callP (zinner_spec _ (by omega) (by omega) hL) rfl ?_
      refine AOps.guardT rfl rfl rfl ?_
      refine AOps.val (Gv.not rfl) ?_
      refine AOps.val (Gv.pickF (v := .bool _) rfl rfl rfl) ?_
      refine AOps.nil ?_
      refine AWP.cond rfl (fun c9 => ?_) (fun c9 => ?_)
      · skip
        refine AWP.seq ?_
        refine AWP.region rfl ?_
        refine AOps.val (Gv.assign (v := .bool _) rfl) ?_
        refine AOps.nil ?_
        refine AWP.ret ?_
        repeat (first | refine aseqQ_ret ?_ | refine ablockQ_ret ?_)
        refine afin.t1 (x := .bool _) rfl ?_
        rw [if_pos (by simp_all <;> omega)] at hstep; exact jb hstep
      · skip
        refine AWP.skip ?_
        exact ⟨p + (Utf8.decode s p).2, ⟨rfl, rfl, trivial⟩, trivial, ⟨_, (.refl _), rfl⟩, by rw [if_neg (by simp_all <;> omega)] at hstep; exact hstep, by omega⟩
  · skip
    rw [nmGo, dif_neg hlt] at hp
    refine AWP.seq ?_
    refine AWP.region rfl ?_
    refine AOps.nextTover rfl .head hlt ?_
    refine AOps.val (Gv.extract (v := .bool _) rfl rfl) ?_
    refine AOps.nil ?_
    refine AWP.seq ?_
    refine AWP.condF rfl rfl ?_
    refine AWP.exit ?_
    refine AWP.seq ?_
    refine AWP.region rfl ?_
    refine AOps.val (Gv.move (v := .str _) rfl) ?_
    refine AOps.val (Gv.neqT rfl rfl) ?_
    refine AOps.val (Gv.move (v := .bool _) rfl) ?_
    refine AOps.case (s := 25) rfl (fun c10 => ?_) (fun c10 => ?_)
    · skip
      refine AOps.guardT rfl rfl c10 ?_
      refine AOps.val (Gv.move (v := .str _) rfl) ?_
      refine AOps.guardT rfl rfl c10 ?_
      refine AOps.callP (runes_spec _ (by assumption)) rfl ?_
      refine AOps.guardT rfl rfl c10 ?_
      refine AOps.val (Gv.leq rfl rfl) ?_
      refine AOps.val (Gv.pickT (v := .bool _) rfl c10 rfl) ?_
      refine AOps.val (Gv.assign (v := .bool _) rfl) ?_
      refine AOps.nil ?_
      refine AWP.ret ?_
      repeat (first | refine aseqQ_ret ?_ | refine ablockQ_ret ?_)
      refine afin.t1 (x := .bool _) rfl ?_
      rw [← hp]; exact jb (by simp_all <;> (try omega))
    · skip
      refine AOps.guardFd rfl rfl c10 ?_
      refine AOps.guardFd rfl rfl c10 ?_
      refine AOps.guardFd rfl rfl c10 ?_
      refine AOps.val (Gv.pickF (v := .bool _) rfl c10 rfl) ?_
      refine AOps.val (Gv.assign (v := .bool _) rfl) ?_
      refine AOps.nil ?_
      refine AWP.ret ?_
      repeat (first | refine aseqQ_ret ?_ | refine ablockQ_ret ?_)
      refine afin.t1 (x := .bool _) rfl ?_
      rw [← hp]; exact jb (by simp_all <;> (try omega))
end Go.Proofs.YtdkhlgiohpdihaaGreatDoor
namespace Go.Proofs.YtdkhlgiohpdihaaGreatDoor
open Go.Proofs Go.Lib Go.Shelf Go.RowKit
set_option maxRecDepth 20000
variable {E : World}
theorem cell_up {w : World} {p : Addr} {v : Value} (h : E.cell? p = some v) (hb : Below E.heap.size E w) : w.cell? p = some v := by
  rw [hb.cell ?_]; exact h
  rcases Nat.lt_or_ge p.block E.heap.size with h1 | h1
  · exact h1
  · unfold World.cell? at h
    rw [Array.getElem?_eq_none h1] at h; cases h
structure Vars0 (E : World) : Prop where
  tabs : Lib.Utf8Tabs 0 1 E
  len : ∃ m, E.cell? ⟨5, 0, none⟩ = some (.int .i64 m)
  syn : ∃ t p, E.cell? ⟨8, 0, none⟩ = some (.iface t p)
  ran : ∃ t p, E.cell? ⟨9, 0, none⟩ = some (.iface t p)
theorem tabs_up {w : World} {g h : Nat} (ht : Lib.Utf8Tabs g h E) (hb : Below E.heap.size E w) : Lib.Utf8Tabs g h w :=
  ⟨fun c hc => cell_up (ht.1 c hc) hb, fun i hi => ⟨cell_up (ht.2 i hi).1 hb, cell_up (ht.2 i hi).2 hb⟩⟩
theorem valid_spec (s : ByteArray) (hs : s.size ≤ 9223372036854775807) (hV : Vars0 E) : AFun Tryz.prog E 73 [.str s] (.bool (Lib.validD s.data.toList)) :=
  AFun.ofBelow (vs := [.string s]) (r := .bool (Lib.validD s.data.toList)) Tryz.func73 rfl (by decide) rfl fun w hw => Tryz.utf8_ValidString s w hs (tabs_up hV.tabs hw)
theorem impNil (k : Nat) : ∀ I v, RepV I (.raw (.slice none 0 0)) v → RepV I (.fro k []) v := fun _ _ h => ⟨none, 0, 0, h, rfl, Nat.le_refl _, fun _ => rfl, trivial⟩
theorem AFun.weak {P : Program} {f : FuncId} {us : List AV} {x y : AV} (h : AFun P E f us x) (hi : ∀ I v, RepV I x v → RepV I y v) : AFun P E f us y := fun I F w vs h1 h2 =>
  (h I F w vs h1 h2).mono fun _ _ ⟨J, x', O', a, b, c, d⟩ => ⟨J, y, O', a, hi _ _ (d ▸ b), c, rfl⟩
def cutA (s sep : ByteArray) : ByteArray := ⟨(Lib.cut s.data.toList sep.data.toList).1.toArray⟩
def cutB2 (s sep : ByteArray) : ByteArray := ⟨(Lib.cut s.data.toList sep.data.toList).2.1.toArray⟩
def cutT (s sep : ByteArray) : Bool := (Lib.cut s.data.toList sep.data.toList).2.2
theorem drewN_below (w : World) : ∀ n, Below w.heap.size w (w.drewN n)
  | 0 => Below.refl _ _
  | n + 1 => (drewN_below w n).drew
theorem cut_spec (s sep : ByteArray) (hs : s.size < 4294967281) (hV : Vars0 E) : AFun Tryz.prog E 75 [.str s, .str sep] (.tup [.str (cutA s sep), .str (cutB2 s sep), .bool (cutT s sep)]) := by
  obtain ⟨m, hm⟩ := hV.len
  refine (AFun.ofBelow (E := E) (vs := [.string s, .string sep]) (r := .tuple #[.string (cutA s sep), .string (cutB2 s sep), .bool (cutT s sep)]) Tryz.func75 rfl (by decide) rfl fun w hw => ?_).weak ?_
  · exact (Tryz.strings_Cut s sep m w hs (cell_up hm hw)).mono fun e w' ⟨he, n, hn⟩ => ⟨he, hn ▸ drewN_below w n⟩
  · rintro I v h
    have h : v = _ := h
    exact ⟨[_, _, _], h, _, _, rfl, rfl, _, _, rfl, rfl, _, _, rfl, rfl, rfl⟩
def splitL (s sep : ByteArray) : List ByteArray := Lib.splitB sep 0 (Lib.countB s sep) s
theorem RepR.ofStr {I : G} {b : Nat} {T : TypeId} {f : Nat × Nat} (l : List ByteArray) (hb : I.k b = some (.cells (l.map Value.string).toArray T f)) : RepR I 1 (some ⟨b, 0, none⟩) 0 (l.map encS) := RepR.intro fun j r hj => by
  rw [List.getElem?_map] at hj
  obtain ⟨s, hs, rfl⟩ := Option.map_eq_some_iff.1 hj
  refine ⟨b, 0, [.string s], rfl, rfl, ⟨_, _, rfl, rfl, rfl⟩, fun i u hu => ⟨_, T, f, hb, ?_⟩⟩
  have hi : i = 0 := by
    have := (List.getElem?_eq_some_iff.1 hu).1
    simpa using this
  subst hi
  simp only [List.getElem?_cons_zero, Option.some.injEq] at hu
  subst hu
  simp [hs]
theorem split_spec (s sep : ByteArray) (hs : s.size < 4294967281) (h1 : 1 ≤ sep.size) (hV : Vars0 E) : AFun Tryz.prog E 46 [.str s, .str sep] (.fro 1 ((splitL s sep).map encS)) := fun I F w vs h2 h3 => by
  have hl : (splitL s sep).length = Lib.countB s sep + 1 := Lib.splitB_all sep h1 0 _ s rfl
  obtain ⟨m, hm⟩ := hV.len
  obtain ⟨v, us, rfl, e1, v2, us2, rfl, e2, e3⟩ := h2
  have e1 : v = .string s := e1
  have e2 : v2 = .string sep := e2
  have e3 : us2 = [] := e3
  subst e1 e2 e3
  obtain ⟨ht, L, hL, hS⟩ := h3
  have hL : L = [] := hL
  subst hL
  refine Fn.ofCalls Tryz.func46 rfl (by decide) ?_
  refine (Tryz.strings_Split s sep m w hs (cell_up hm hS.belowE) h1).mono fun e w' ⟨he, hw⟩ => ?_
  subst hw
  obtain ⟨hle, hS2⟩ := hS.alloc_pers (.cells ((splitL s sep).map Value.string).toArray 9)
  let J : G := ⟨I.k.put w.heap.size (.cells ((splitL s sep).map Value.string).toArray 9), I.h⟩
  refine ⟨_, he, J, .fro 1 ((splitL s sep).map encS), [], ⟨hle, fun _ _ h => h⟩, ⟨some ⟨w.heap.size, 0, none⟩, _, _, rfl, by rw [List.length_map, hl], Nat.le_refl _, fun h => by (cases h), RepR.ofStr _ (Ghost.put_same _ _ _)⟩, ⟨ht, [], rfl, hS2⟩, rfl⟩
end Go.Proofs.YtdkhlgiohpdihaaGreatDoor
namespace Go.Proofs.YtdkhlgiohpdihaaGreatDoor
open Go.Proofs Go.Lib Go.Shelf Go.RowKit
theorem ps34_1 : PlacesS Tryz.prog 34 21 1 1 [.int .i32 0] := ⟨_, Tryz.underlying34, Tryz.sizeOf21, Tryz.zeroValue21, by decide, by decide, by kernel_rfl⟩
set_option maxRecDepth 20000
variable {E : World}
def lineC (c : Int) : Bool := !(decide (c < 32) && !decide (c = 10))
def rightE (s : ByteArray) : Int := if 16384 < s.size then 4 else if Lib.validD s.data.toList = false then 2 else if (runesFrom s 0).all lineC then 0 else 2
theorem zright_spec (s : ByteArray) (hs : s.size ≤ 140737488355328) (hV : Vars0 E) : AFun Tryz.prog E 45 [.str s] (.int .i64 (rightE s)) := by
  refine ACall.intro Tryz.func45 rfl (by decide) rfl ?_
  refine AWP.seq ?_
  refine AWP.region rfl ?_
  refine AOps.val (Gv.assign (v := .int _ _) rfl) ?_
  refine AOps.nil ?_
  refine AWP.seq ?_
  refine AWP.seq ?_
  refine AWP.region rfl ?_
  refine AOps.val (Gv.move (v := .str _) rfl) ?_
  refine AOps.val (Gv.lenT Tryz.underlying9 rfl) ?_
  refine AOps.val (Gv.gtr rfl rfl) ?_
  refine AOps.nil ?_
  refine AWP.condP rfl (fun ca => ?_) (fun ca => ?_)
  · skip
    refine AWP.seq ?_
    refine AWP.region rfl ?_
    refine AOps.val (Gv.assign (v := .int _ _) rfl) ?_
    refine AOps.nil ?_
    refine AWP.ret ?_
    repeat (first | refine aseqQ_ret ?_ | refine ablockQ_ret ?_)
    refine afin.t1 (x := .int _ _) rfl ?_
    exact congrArg (AV.int .i64) (by unfold rightE; rw [if_pos (by omega)])
  · skip
    refine AWP.skip ?_
    refine AWP.seq ?_
    refine AWP.seq ?_
    refine AWP.region rfl ?_
    refine AOps.val (Gv.move (v := .str _) rfl) ?_
    refine AOps.callP (valid_spec s (by omega) hV) rfl ?_
    refine AOps.val (Gv.not rfl) ?_
    refine AOps.nil ?_
    refine AWP.cond rfl (fun cb => ?_) (fun cb => ?_)
    · skip
      refine AWP.seq ?_
      refine AWP.region rfl ?_
      refine AOps.val (Gv.assign (v := .int _ _) rfl) ?_
      refine AOps.nil ?_
      refine AWP.ret ?_
      repeat (first | refine aseqQ_ret ?_ | refine ablockQ_ret ?_)
      refine afin.t1 (x := .int _ _) rfl ?_
      exact congrArg (AV.int .i64) (by unfold rightE; rw [if_neg (by omega), if_pos (by simpa using cb)])
    · skip
      refine AWP.skip ?_
      refine AWP.seq ?_
      refine AWP.seq ?_
      refine AWP.region rfl ?_
      refine AOps.val (Gv.move (v := .str _) rfl) ?_
      refine AOps.rangeT Tryz.underlying9 rfl ?_
      intro i12
      refine AOps.nil ?_
      refine AWP.block ?_
      refine AWP.loop (γ := Nat) [12] (fun p => []) (fun p => [(i12, .iter s p)]) (fun p => (runesFrom s p).all lineC = (runesFrom s 0).all lineC) (fun p => s.size - p) 0 trivial ⟨_, (.refl _), rfl⟩ (rfl) ?_
      rintro p hp
      by_cases hlt : p < s.size
      · skip
        have hd := (decode_ok s p).1
        rw [runesFrom_lt hlt, List.all_cons] at hp
        refine AWP.seq ?_
        refine AWP.region rfl ?_
        refine AOps.nextT rfl .head hlt ?_
        refine AOps.val (Gv.extract (v := .bool _) rfl rfl) ?_
        refine AOps.nil ?_
        refine AWP.seq ?_
        refine AWP.condT rfl rfl ?_
        refine AWP.skip ?_
        refine AWP.block ?_
        refine AWP.seq ?_
        refine AWP.region rfl ?_
        refine AOps.val (Gv.extract (v := .int _ _) rfl rfl) ?_
        refine AOps.val (Gv.assign (v := .int _ _) rfl) ?_
        refine AOps.nil ?_
        refine AWP.seq ?_
        refine AWP.region rfl ?_
        refine AOps.val (Gv.move (v := .int _ _) rfl) ?_
        refine AOps.val (Gv.lss rfl rfl) ?_
        refine AOps.val (Gv.move (v := .bool _) rfl) ?_
        refine AOps.case (s := 18) rfl (fun c1 => ?_) (fun c1 => ?_)
        · skip
          refine AOps.guardT rfl rfl c1 ?_
          refine AOps.val (Gv.move (v := .int _ _) rfl) ?_
          refine AOps.guardT rfl rfl c1 ?_
          refine AOps.val (Gv.neqI rfl rfl) ?_
          refine AOps.val (Gv.pickT (v := .bool _) rfl c1 rfl) ?_
          refine AOps.nil ?_
          refine AWP.cond rfl (fun c2 => ?_) (fun c2 => ?_)
          · skip
            refine AWP.seq ?_
            refine AWP.region rfl ?_
            refine AOps.val (Gv.assign (v := .int _ _) rfl) ?_
            refine AOps.nil ?_
            refine AWP.ret ?_
            repeat (first | refine aseqQ_ret ?_ | refine ablockQ_ret ?_)
            refine afin.t1 (x := .int _ _) rfl ?_
            exact congrArg (AV.int .i64) (by unfold rightE; rw [if_neg (by omega), if_neg (by simpa using cb), ← hp, if_neg (by simp_all [lineC] <;> omega)])
          · skip
            refine AWP.skip ?_
            exact ⟨p + (Utf8.decode s p).2, ⟨rfl, trivial⟩, trivial, ⟨_, (.refl _), rfl⟩, by rw [← hp, show lineC ((Utf8.decode s p).1 : Int) = true from by simp_all [lineC] <;> omega, Bool.true_and], by omega⟩
        · skip
          refine AOps.guardFd rfl rfl c1 ?_
          refine AOps.guardFd rfl rfl c1 ?_
          refine AOps.val (Gv.pickF (v := .bool _) rfl c1 rfl) ?_
          refine AOps.nil ?_
          refine AWP.condF rfl rfl ?_
          refine AWP.skip ?_
          exact ⟨p + (Utf8.decode s p).2, ⟨rfl, trivial⟩, trivial, ⟨_, (.refl _), rfl⟩, by rw [← hp, show lineC ((Utf8.decode s p).1 : Int) = true from by simp_all [lineC] <;> omega, Bool.true_and], by omega⟩
      · skip
        rw [runesFrom_ge hlt] at hp
        refine AWP.seq ?_
        refine AWP.region rfl ?_
        refine AOps.nextTover rfl .head hlt ?_
        refine AOps.val (Gv.extract (v := .bool _) rfl rfl) ?_
        refine AOps.nil ?_
        refine AWP.seq ?_
        refine AWP.condF rfl rfl ?_
        refine AWP.exit ?_
        refine AWP.seq ?_
        refine AWP.region rfl ?_
        refine AOps.val (Gv.assign (v := .int _ _) rfl) ?_
        refine AOps.nil ?_
        refine AWP.ret ?_
        repeat (first | refine aseqQ_ret ?_ | refine ablockQ_ret ?_)
        refine afin.t1 (x := .int _ _) rfl ?_
        exact congrArg (AV.int .i64) (by unfold rightE; rw [if_neg (by omega), if_neg (by simpa using cb), if_pos (by rw [← hp]; rfl)])
def wdGo (s : ByteArray) (p : Nat) (out : List ByteArray) (word : List Int) : List ByteArray :=
  if h : p < s.size then
    if ((Utf8.decode s p).1 : Int) = 32 then (if word = [] then wdGo s (p + (Utf8.decode s p).2) out word else wdGo s (p + (Utf8.decode s p).2) (out ++ [runesBytes word]) [])
    else wdGo s (p + (Utf8.decode s p).2) out (word ++ [((Utf8.decode s p).1 : Int)])
  else out
termination_by s.size - p
decreasing_by all_goals (have := (decode_ok s p).1; omega)
def hash : ByteArray := ⟨#[35]⟩
def scanWords (s : ByteArray) : List ByteArray := wdGo (cutA s hash ++ ⟨#[32]⟩) 0 [] []
theorem cutA_size (s sep : ByteArray) : (cutA s sep).size ≤ s.size := by
  unfold cutA Lib.cut
  split
  · show (List.toArray _).size ≤ _
    rw [List.size_toArray]
    have : s.data.toList.length = s.size := Array.length_toList
    simp only [List.length_take]; omega
  · show (List.toArray _).size ≤ _
    rw [List.size_toArray]
    have : s.data.toList.length = s.size := Array.length_toList
    simp only; omega
theorem words_spec (s : ByteArray) (hs : s.size ≤ 100000) (hV : Vars0 E) : AFun Tryz.prog E 47 [.str s] (.fro 1 ((scanWords s).map encS)) := by
  have hc := cutA_size s hash
  have hcs : (cutA s hash ++ ⟨#[32]⟩ : ByteArray).size = (cutA s hash).size + 1 := by rw [ByteArray.size_append]; rfl
  have hr0 := runesFrom_len (cutA s hash ++ ⟨#[32]⟩) _ 0 (Nat.le_refl _)
  refine ACall.intro Tryz.func47 rfl (by decide) rfl ?_
  refine AWP.seq ?_
  refine AWP.region rfl ?_
  refine AOps.val (Gv.assign (v := .raw _) rfl) ?_
  refine AOps.nil ?_
  refine AWP.seq ?_
  refine AWP.region rfl ?_
  refine AOps.val (Gv.move (v := .str _) rfl) ?_
  refine AOps.callP (cut_spec s hash (by omega) hV) rfl ?_
  refine AOps.val (Gv.move (v := .tup _) rfl) ?_
  refine AOps.val (Gv.extract (v := .str _) rfl rfl) ?_
  refine AOps.val (Gv.extract (v := .str _) rfl rfl) ?_
  refine AOps.val (Gv.extract (v := .bool _) rfl rfl) ?_
  refine AOps.val (Gv.assign (v := .str _) rfl) ?_
  refine AOps.nil ?_
  refine AWP.seq ?_
  refine AWP.region rfl ?_
  refine AOps.val (Gv.assign (v := .raw _) rfl) ?_
  refine AOps.nil ?_
  refine AWP.seq ?_
  refine AWP.region rfl ?_
  refine AOps.buildSlice0 (k := 1) Tryz.underlying34 Tryz.type21 ?_
  intro i13
  refine AOps.val (Gv.assign (v := .own _ _) rfl) ?_
  refine AOps.nil ?_
  refine AWP.seq ?_
  refine AWP.seq ?_
  refine AWP.region rfl ?_
  refine AOps.val (Gv.move (v := .str _) rfl) ?_
  refine AOps.val (Gv.addT rfl rfl (by show _ + 1 ≤ _; omega)) ?_
  refine AOps.rangeT Tryz.underlying9 rfl ?_
  intro i16
  refine AOps.nil ?_
  refine AWP.block ?_
  refine adopt_wp (t := 3) (k := 1) (T := 9) rfl ?_
  intro i3
  refine AWP.loop (γ := Nat × Nat × List ByteArray × List Int × Nat × Nat) [16] (fun g => [(3, .own g.2.2.2.2.1 g.2.2.1.length), (4, .own g.2.2.2.2.2 g.2.2.2.1.length)]) (fun g => [(g.2.2.2.2.1, .grow 1 9 (g.2.2.1.map encS).flatten), (i16, .iter (cutA s hash ++ ⟨#[32]⟩) g.1), (g.2.2.2.2.2, .grow 1 21 (g.2.2.2.1.map encR).flatten)]) (fun g => wdGo (cutA s hash ++ ⟨#[32]⟩) g.1 g.2.2.1 g.2.2.2.1 = scanWords s ∧ g.2.1 + (runesFrom (cutA s hash ++ ⟨#[32]⟩) g.1).length = (runesFrom (cutA s hash ++ ⟨#[32]⟩) 0).length ∧ g.2.2.1.length ≤ g.2.1 ∧ g.2.2.2.1.length ≤ g.2.1) (fun g => (cutA s hash ++ ⟨#[32]⟩ : ByteArray).size - g.1) (0, 0, [], [], i3, i13) ⟨rfl, rfl, trivial⟩ ⟨_, (.refl _), rfl⟩ (⟨rfl, by simp, by simp, by simp⟩) ?_
  rintro ⟨p, c, out, word, io, iw⟩ ⟨hp, hc1, hc2, hc3⟩
  try dsimp only at *
  by_cases hlt : p < (cutA s hash ++ ⟨#[32]⟩ : ByteArray).size
  · skip
    have hd := (decode_ok (cutA s hash ++ ⟨#[32]⟩) p).1
    have hstep := hp
    rw [wdGo, dif_pos hlt] at hstep
    rw [runesFrom_lt hlt, List.length_cons] at hc1
    refine AWP.seq ?_
    refine AWP.region rfl ?_
    refine AOps.nextT rfl (.tail .head) hlt ?_
    refine AOps.val (Gv.extract (v := .bool _) rfl rfl) ?_
    refine AOps.nil ?_
    refine AWP.seq ?_
    refine AWP.condT rfl rfl ?_
    refine AWP.skip ?_
    refine AWP.block ?_
    refine AWP.seq ?_
    refine AWP.region rfl ?_
    refine AOps.val (Gv.extract (v := .int _ _) rfl rfl) ?_
    refine AOps.val (Gv.assign (v := .int _ _) rfl) ?_
    refine AOps.nil ?_
    refine AWP.block ?_
    refine AWP.seq ?_
    refine AWP.region rfl ?_
    refine AOps.val (Gv.move (v := .int _ _) rfl) ?_
    refine AOps.val (Gv.neqI rfl rfl) ?_
    refine AOps.val (Gv.assign (v := .bool _) rfl) ?_
    refine AOps.nil ?_
    refine AWP.cond rfl (fun cw => ?_) (fun cw => ?_)
    · skip
      rw [if_neg (by simpa using cw)] at hstep
      refine AWP.region rfl ?_
      refine AOps.val (Gv.move (v := .own _ _) rfl) ?_
      refine AOps.val (Gv.move (v := .int _ _) rfl) ?_
      refine AOps.buildSliceFF (rows := [[_]]) ps34_1 rfl rfl rfl rfl rfl ?_
      refine AOps.appendS (k := 1) Tryz.underlying34 Tryz.type21 rfl rfl rfl rfl rfl (fun _ => (.tail (.tail .head))) (by rw [grow_len (k := 1) (fun _ => rfl)]) (by decide) rfl (by show (_ + _) * 4 ≤ _; simp <;> omega) (by simp <;> omega) ?_
      intro i26
      refine AOps.val (Gv.assign (v := .own _ _) rfl) ?_
      refine AOps.nil ?_
      exact ⟨(p + (Utf8.decode (cutA s hash ++ ⟨#[32]⟩) p).2, c + 1, out, word ++ [((Utf8.decode (cutA s hash ++ ⟨#[32]⟩) p).1 : Int)], io, i26), ⟨rfl, trivial⟩, ⟨rfl, congrArg (AV.own _) (by simp), trivial⟩, ⟨_, (.refl _), by rw [← grow_push (enc := encR) (rfl : word ++ [((Utf8.decode (cutA s hash ++ ⟨#[32]⟩) p).1 : Int)] = _)]; rfl⟩, ⟨hstep, by dsimp only; omega, by dsimp only; omega, by simp; omega⟩, by dsimp only; omega⟩
    · skip
      rw [if_pos (by simpa using cw)] at hstep
      refine AWP.seq ?_
      refine AWP.region rfl ?_
      refine AOps.val (Gv.move (v := .own _ _) rfl) ?_
      refine AOps.val (Gv.lenO Tryz.underlying34 rfl) ?_
      refine AOps.val (Gv.gtr rfl rfl) ?_
      refine AOps.val (Gv.assign (v := .bool _) rfl) ?_
      refine AOps.nil ?_
      refine AWP.condP rfl (fun cl => ?_) (fun cl => ?_)
      · skip
        rw [if_neg (by intro h0; subst h0; simp at cl)] at hstep
        refine AWP.seq ?_
        refine AWP.region rfl ?_
        refine AOps.val (Gv.move (v := .own _ _) rfl) ?_
        refine AOps.val (Gv.move (v := .own _ _) rfl) ?_
        refine AOps.val (Gv.runesO Tryz.underlying34 Tryz.underlying21 Tryz.underlying9 rfl ⟨_, (.tail (.tail .head))⟩ (by simp)) ?_
        refine AOps.buildSliceFF (rows := [[_]]) ps62_1 rfl rfl rfl rfl rfl ?_
        refine AOps.appendS (k := 1) Tryz.underlying62 Tryz.type9 rfl rfl rfl rfl rfl (fun _ => .head) (by rw [grow_len (k := 1) (fun _ => rfl)]) (by decide) rfl (by show (_ + _) * 16 ≤ _; simp <;> omega) (by simp <;> omega) ?_
        intro i35
        refine AOps.val (Gv.assign (v := .own _ _) rfl) ?_
        refine AOps.nil ?_
        refine AWP.region rfl ?_
        refine AOps.val (Gv.move (v := .own _ _) rfl) ?_
        refine AOps.cut0 Tryz.underlying34 Tryz.sizeOf21 rfl rfl (.tail (.tail .head)) ?_
        refine AOps.val (Gv.assign (v := .own _ _) rfl) ?_
        refine AOps.nil ?_
        exact ⟨(p + (Utf8.decode (cutA s hash ++ ⟨#[32]⟩) p).2, c + 1, out ++ [runesBytes word], [], i35, iw), ⟨rfl, trivial⟩, ⟨congrArg (AV.own _) (by simp), rfl, trivial⟩, ⟨_, (.refl _), by rw [← grow_push (enc := encS) (rfl : out ++ [runesBytes word] = _)]; rfl⟩, ⟨hstep, by dsimp only; omega, by simp; omega, by simp⟩, by dsimp only; omega⟩
      · skip
        rw [if_pos (by cases word <;> simp_all <;> omega)] at hstep
        refine AWP.skip ?_
        exact ⟨(p + (Utf8.decode (cutA s hash ++ ⟨#[32]⟩) p).2, c + 1, out, word, io, iw), ⟨rfl, trivial⟩, ⟨rfl, rfl, trivial⟩, ⟨_, (.refl _), rfl⟩, ⟨hstep, by dsimp only; omega, by dsimp only; omega, by dsimp only; omega⟩, by dsimp only; omega⟩
  · skip
    rw [wdGo, dif_neg hlt] at hp
    refine AWP.seq ?_
    refine AWP.region rfl ?_
    refine AOps.nextTover rfl (.tail .head) hlt ?_
    refine AOps.val (Gv.extract (v := .bool _) rfl rfl) ?_
    refine AOps.nil ?_
    refine AWP.seq ?_
    refine AWP.condF rfl rfl ?_
    refine AWP.exit ?_
    refine AWP.seq ?_
    refine AWP.region rfl ?_
    refine AOps.val (Gv.move (v := .own _ _) rfl) ?_
    refine AOps.val (Gv.assign (v := .own _ _) rfl) ?_
    refine AOps.nil ?_
    refine AWP.ret ?_
    repeat (first | refine aseqQ_ret ?_ | refine ablockQ_ret ?_)
    refine GStep.fin (GStep.know (t := 2) (rows := out.map encS) rfl .head (by first | (intro r hr; obtain ⟨x, _, rfl⟩ := List.mem_map.1 hr; rfl) | simp [encS]) (by decide) (by simp)) ?_
    refine afin.t1 (x := .fro _ _) rfl ?_
    rw [hp]
end Go.Proofs.YtdkhlgiohpdihaaGreatDoor
namespace Go.Proofs.YtdkhlgiohpdihaaGreatDoor
open Go.Proofs Go.Lib Go.Shelf Go.RowKit
theorem pl100 : Places Tryz.prog 100 #[(0, 1), (1, 1)] [.int .i64 0, .raw (.slice none 0 0)] := ⟨_, _, Tryz.underlying100, Tryz.zeroValue100, fun w => by kernel_rfl, rfl⟩
theorem ps51_1 : PlacesS Tryz.prog 51 100 1 2 [.int .i64 0, .raw (.slice none 0 0)] := ⟨_, Tryz.underlying51, Tryz.sizeOf100, Tryz.zeroValue100, by decide, by decide, by kernel_rfl⟩
set_option maxRecDepth 20000
variable {E : World}
def nl : ByteArray := ⟨#[10]⟩
def lineGo : List ByteArray → Nat → List (Int × List ByteArray)
  | [], _ => []
  | l :: ls, i => if scanWords l = [] then lineGo ls (i + 1) else ((i : Int) + 1, scanWords l) :: lineGo ls (i + 1)
def scanLines (s : ByteArray) : List (Int × List ByteArray) := lineGo (splitL s nl) 0
def encLine (l : Int × List ByteArray) : List AV := [.int .i64 l.1, .fro 1 (l.2.map encS)]
theorem extract_size (s : ByteArray) (a b : Nat) : (s.extract a b).size ≤ s.size := by
  rw [ByteArray.size_extract]; omega
theorem splitB_size (sep : ByteArray) (n : Nat) : ∀ (k : Nat) (s : ByteArray), s.size ≤ n → ∀ l ∈ Lib.splitB sep 0 k s, l.size ≤ n := by
  intro k
  induction k with
  | zero => intro s h l hl; rw [Lib.splitB_zero] at hl; rw [List.mem_singleton.1 hl]; exact h
  | succ k ih =>
    intro s h l hl
    unfold Lib.splitB at hl
    split at hl
    · rw [List.mem_singleton.1 hl]; exact h
    · rcases List.mem_cons.1 hl with rfl | hl
      · exact Nat.le_trans (extract_size _ _ _) h
      · exact ih _ (Nat.le_trans (extract_size _ _ _) h) l hl
theorem rightE_size {s : ByteArray} (h : rightE s = 0) : s.size ≤ 16384 := by
  unfold rightE at h
  split at h
  · cases h
  · omega
def linesOf (s : ByteArray) : List (Int × List ByteArray) := if rightE s = 0 then scanLines s else []
theorem zlines_spec (s : ByteArray) (hs : s.size ≤ 140737488355328) (hV : Vars0 E) : AFun Tryz.prog E 17 [.str s] (.tup [.fro 2 ((linesOf s).map encLine), .int .i64 (rightE s)]) := by
  refine ACall.intro Tryz.func17 rfl (by decide) rfl ?_
  refine AWP.seq ?_
  refine AWP.region rfl ?_
  refine AOps.val (Gv.assign (v := .raw _) rfl) ?_
  refine AOps.val (Gv.assign (v := .int _ _) rfl) ?_
  refine AOps.nil ?_
  refine AWP.seq ?_
  refine AWP.seq ?_
  refine AWP.region rfl ?_
  refine AOps.val (Gv.move (v := .str _) rfl) ?_
  refine AOps.callP (zright_spec s hs hV) rfl ?_
  refine AOps.val (Gv.assign (v := .int _ _) rfl) ?_
  refine AOps.nil ?_
  refine AWP.seq ?_
  refine AWP.region rfl ?_
  refine AOps.val (Gv.move (v := .int _ _) rfl) ?_
  refine AOps.val (Gv.neqI rfl rfl) ?_
  refine AOps.nil ?_
  refine AWP.cond rfl (fun c0 => ?_) (fun c0 => ?_)
  · skip
    have hr : ¬ rightE s = 0 := by simpa using c0
    refine AWP.seq ?_
    refine AWP.region rfl ?_
    refine AOps.val (Gv.move (v := .int _ _) rfl) ?_
    refine AOps.val (Gv.assign (v := .raw _) rfl) ?_
    refine AOps.val (Gv.assign (v := .int _ _) rfl) ?_
    refine AOps.nil ?_
    refine AWP.ret ?_
    repeat (first | refine aseqQ_ret ?_ | refine ablockQ_ret ?_)
    refine GStep.fin (GStep.slot (t := 2) rfl (impNil 2)) ?_
    refine afin.t2 (x := .fro _ _) (y := .int _ _) rfl rfl ?_
    unfold linesOf; rw [if_neg hr]; rfl
  · skip
    have hr : rightE s = 0 := by simpa using c0
    have hsz := rightE_size hr
    have hn : (splitL s nl).length ≤ 1000000 := by have h1 := Lib.splitB_length_le nl 0 (Lib.countB s nl) s; have h2 := Lib.countB_le nl (by decide) s.size s (Nat.le_refl _); unfold splitL; omega
    refine AWP.skip ?_
    refine AWP.seq ?_
    refine AWP.region rfl ?_
    refine AOps.val (Gv.assign (v := .raw _) rfl) ?_
    refine AOps.nil ?_
    refine AWP.seq ?_
    refine AWP.seq ?_
    refine AWP.region rfl ?_
    refine AOps.val (Gv.move (v := .str _) rfl) ?_
    refine AOps.callP (split_spec s nl (by omega) (by decide) hV) rfl ?_
    refine AOps.val (Gv.lenM Tryz.underlying62 rfl) ?_
    refine AOps.val (Gv.move (v := .int _ _) rfl) ?_
    refine AOps.nil ?_
    refine AWP.block ?_
    refine adopt_wp (t := 5) (k := 2) (T := 100) rfl ?_
    intro i5
    refine AWP.loop (γ := Nat × List (Int × List ByteArray) × Nat) [15, 16] (fun g => [(17, .int .i64 g.1), (5, .own g.2.2 g.2.1.length)]) (fun g => [(g.2.2, .grow 2 100 (g.2.1.map encLine).flatten)]) (fun g => g.1 ≤ (splitL s nl).length ∧ g.2.1 ++ lineGo ((splitL s nl).drop g.1) g.1 = scanLines s ∧ g.2.1.length ≤ g.1) (fun g => (splitL s nl).length - g.1) (0, [], i5) ⟨rfl, rfl, trivial⟩ ⟨_, (.refl _), rfl⟩ (⟨Nat.zero_le _, rfl, Nat.le_refl _⟩) ?_
    rintro ⟨k, out, io⟩ ⟨hk, ho, hl⟩
    try dsimp only at *
    refine AWP.seq ?_
    refine AWP.region rfl ?_
    refine AOps.val (Gv.lss rfl rfl) ?_
    refine AOps.nil ?_
    refine AWP.seq ?_
    refine AWP.condP rfl (fun ck => ?_) (fun ck => ?_)
    · skip
      have hk2 : k < (splitL s nl).length := by omega
      have hpiece : (splitL s nl)[k].size ≤ 16384 := splitB_size nl 16384 _ s hsz _ (List.getElem_mem hk2)
      rw [List.drop_eq_getElem_cons hk2, lineGo] at ho
      refine AWP.skip ?_
      refine AWP.seq ?_
      refine AWP.block ?_
      refine AWP.seq ?_
      refine AWP.region rfl ?_
      refine AOps.val (Gv.move (v := .int _ _) rfl) ?_
      refine AOps.val (Gv.idxM Tryz.underlying62 Tryz.sizeOf9 rfl rfl rfl (List.getElem?_eq_getElem (by omega))) ?_
      refine AOps.val (Gv.load1F (c := .str _) Tryz.isAgg9 rfl) ?_
      refine AOps.val (Gv.assign (v := .int _ _) rfl) ?_
      refine AOps.val (Gv.assign (v := .str _) rfl) ?_
      refine AOps.nil ?_
      refine AWP.seq ?_
      refine AWP.region rfl ?_
      refine AOps.val (Gv.move (v := .str _) rfl) ?_
      refine AOps.callP (words_spec (splitL s nl)[k] (by omega) hV) rfl ?_
      refine AOps.val (Gv.assign (v := .fro _ _) rfl) ?_
      refine AOps.nil ?_
      refine AWP.seq ?_
      refine AWP.region rfl ?_
      refine AOps.val (Gv.move (v := .fro _ _) rfl) ?_
      refine AOps.val (Gv.lenM Tryz.underlying62 rfl) ?_
      refine AOps.val (Gv.gtr rfl rfl) ?_
      refine AOps.nil ?_
      refine AWP.condP rfl (fun cw => ?_) (fun cw => ?_)
      · skip
        rw [if_neg (by intro h0; rw [h0] at cw; simp at cw)] at ho
        refine AWP.region rfl ?_
        refine AOps.val (Gv.move (v := .own _ _) rfl) ?_
        refine AOps.val (Gv.move (v := .int _ _) rfl) ?_
        refine AOps.val (Gv.add rfl rfl (by unfold I64; omega)) ?_
        refine AOps.val (Gv.move (v := .fro _ _) rfl) ?_
        refine AOps.val (Gv.build (cps := [(0, [_]), (1, [_])]) (rs := [_, _]) pl100 rfl rfl rfl) ?_
        refine AOps.buildSliceFF (rows := [[_, _]]) ps51_1 rfl rfl rfl rfl rfl ?_
        refine AOps.appendS (k := 2) Tryz.underlying51 Tryz.type100 rfl rfl rfl rfl rfl (fun _ => .head) (by rw [grow_len (k := 2) (fun _ => rfl)]) (by decide) rfl (by show (_ + _) * 32 ≤ _; simp <;> omega) (by simp <;> omega) ?_
        intro i33
        refine AOps.val (Gv.assign (v := .own _ _) rfl) ?_
        refine AOps.nil ?_
        refine AWP.region rfl ?_
        refine AOps.val (Gv.add rfl rfl (by unfold I64; omega)) ?_
        refine AOps.val (Gv.move (v := .int _ _) rfl) ?_
        refine AOps.nil ?_
        exact ⟨(k + 1, out ++ [((k : Int) + 1, scanWords (splitL s nl)[k])], i33), ⟨rfl, rfl, trivial⟩, ⟨rfl, congrArg (AV.own _) (by simp), trivial⟩, ⟨_, (.refl _), by rw [← grow_push (enc := encLine) (rfl : out ++ [((k : Int) + 1, scanWords (splitL s nl)[k])] = _)]; rfl⟩, ⟨hk2, by rw [← ho]; simp, by simp; omega⟩, by dsimp only; omega⟩
      · skip
        rw [if_pos (by cases h0 : scanWords (splitL s nl)[k] <;> simp_all <;> omega)] at ho
        refine AWP.skip ?_
        refine AWP.region rfl ?_
        refine AOps.val (Gv.add rfl rfl (by unfold I64; omega)) ?_
        refine AOps.val (Gv.move (v := .int _ _) rfl) ?_
        refine AOps.nil ?_
        exact ⟨(k + 1, out, io), ⟨rfl, rfl, trivial⟩, ⟨rfl, rfl, trivial⟩, ⟨_, (.refl _), rfl⟩, ⟨hk2, ho, by dsimp only; omega⟩, by dsimp only; omega⟩
    · skip
      obtain rfl : k = (splitL s nl).length := by omega
      rw [List.drop_length, lineGo, List.append_nil] at ho
      refine AWP.exit ?_
      refine AWP.seq ?_
      refine AWP.region rfl ?_
      refine AOps.val (Gv.move (v := .own _ _) rfl) ?_
      refine AOps.val (Gv.assign (v := .own _ _) rfl) ?_
      refine AOps.val (Gv.assign (v := .int _ _) rfl) ?_
      refine AOps.nil ?_
      refine AWP.ret ?_
      repeat (first | refine aseqQ_ret ?_ | refine ablockQ_ret ?_)
      refine GStep.fin (GStep.know (t := 2) (rows := out.map encLine) rfl .head (by first | (intro r hr; obtain ⟨x, _, rfl⟩ := List.mem_map.1 hr; rfl) | simp [encLine]) (by decide) (by simp)) ?_
      refine afin.t2 (x := .fro _ _) (y := .int _ _) rfl rfl ?_
      rw [ho, hr]; unfold linesOf; rw [if_pos hr]
end Go.Proofs.YtdkhlgiohpdihaaGreatDoor
namespace Go.Proofs.YtdkhlgiohpdihaaGreatDoor
open Go.Proofs Go.Lib Go.Shelf Go.RowKit
theorem pl38 : Places Tryz.prog 38 #[(0, 1), (1, 1)] [.str ⟨#[]⟩, .int .i64 0] := ⟨_, _, Tryz.underlying38, Tryz.zeroValue38, fun w => by kernel_rfl, rfl⟩
theorem ps23_1 : PlacesS Tryz.prog 23 38 1 2 [.str ⟨#[]⟩, .int .i64 0] := ⟨_, Tryz.underlying23, Tryz.sizeOf38, Tryz.zeroValue38, by decide, by decide, by kernel_rfl⟩
set_option maxRecDepth 20000
variable {E : World}
def colon : ByteArray := ⟨#[58]⟩
def pairOk (s : ByteArray) : Bool := cutT s colon && scanName (cutA s colon)
def pairA (s : ByteArray) : ByteArray := if pairOk s then cutA s colon else ⟨#[]⟩
def pairB (s : ByteArray) : ByteArray := if pairOk s then cutB2 s colon else ⟨#[]⟩
theorem pair_spec (s : ByteArray) (hs : s.size ≤ 100000) (hL : Letters E) (hV : Vars0 E) : AFun Tryz.prog E 76 [.str s] (.tup [.str (pairA s), .str (pairB s), .bool (pairOk s)]) := by
  have hc := cutA_size s colon
  refine ACall.intro Tryz.func76 rfl (by decide) rfl ?_
  refine AWP.seq ?_
  refine AWP.region rfl ?_
  refine AOps.val (Gv.assign (v := .str _) rfl) ?_
  refine AOps.val (Gv.assign (v := .str _) rfl) ?_
  refine AOps.val (Gv.assign (v := .bool _) rfl) ?_
  refine AOps.nil ?_
  refine AWP.seq ?_
  refine AWP.region rfl ?_
  refine AOps.val (Gv.move (v := .str _) rfl) ?_
  refine AOps.callP (cut_spec s colon (by omega) hV) rfl ?_
  refine AOps.val (Gv.move (v := .tup _) rfl) ?_
  refine AOps.val (Gv.extract (v := .str _) rfl rfl) ?_
  refine AOps.val (Gv.extract (v := .str _) rfl rfl) ?_
  refine AOps.val (Gv.extract (v := .bool _) rfl rfl) ?_
  refine AOps.val (Gv.assign (v := .str _) rfl) ?_
  refine AOps.val (Gv.assign (v := .str _) rfl) ?_
  refine AOps.val (Gv.assign (v := .bool _) rfl) ?_
  refine AOps.nil ?_
  refine AWP.seq ?_
  refine AWP.seq ?_
  refine AWP.region rfl ?_
  refine AOps.val (Gv.move (v := .bool _) rfl) ?_
  refine AOps.val (Gv.not rfl) ?_
  refine AOps.val (Gv.move (v := .bool _) rfl) ?_
  refine AOps.case (s := 15) rfl (fun c1 => ?_) (fun c1 => ?_)
  · skip
    refine AOps.guardFd rfl rfl c1 ?_
    refine AOps.guardFd rfl rfl c1 ?_
    refine AOps.guardFd rfl rfl c1 ?_
    refine AOps.val (Gv.pickT (v := .bool _) rfl c1 rfl) ?_
    refine AOps.nil ?_
    refine AWP.condT rfl rfl ?_
    refine AWP.seq ?_
    refine AWP.region rfl ?_
    refine AOps.val (Gv.assign (v := .str _) rfl) ?_
    refine AOps.val (Gv.assign (v := .str _) rfl) ?_
    refine AOps.val (Gv.assign (v := .bool _) rfl) ?_
    refine AOps.nil ?_
    refine AWP.ret ?_
    repeat (first | refine aseqQ_ret ?_ | refine ablockQ_ret ?_)
    refine afin.t3 (x := .str _) (y := .str _) (z := .bool _) rfl rfl rfl ?_
    have hp : pairOk s = _ := rfl; unfold pairA pairB; simp_all [pairOk]
  · skip
    refine AOps.guardT rfl rfl c1 ?_
    refine AOps.val (Gv.move (v := .str _) rfl) ?_
    refine AOps.guardT rfl rfl c1 ?_
    refine AOps.callP (zname_spec _ (by omega) hL) rfl ?_
    refine AOps.guardT rfl rfl c1 ?_
    refine AOps.val (Gv.not rfl) ?_
    refine AOps.val (Gv.pickF (v := .bool _) rfl c1 rfl) ?_
    refine AOps.nil ?_
    refine AWP.cond rfl (fun c2 => ?_) (fun c2 => ?_)
    · skip
      refine AWP.seq ?_
      refine AWP.region rfl ?_
      refine AOps.val (Gv.assign (v := .str _) rfl) ?_
      refine AOps.val (Gv.assign (v := .str _) rfl) ?_
      refine AOps.val (Gv.assign (v := .bool _) rfl) ?_
      refine AOps.nil ?_
      refine AWP.ret ?_
      repeat (first | refine aseqQ_ret ?_ | refine ablockQ_ret ?_)
      refine afin.t3 (x := .str _) (y := .str _) (z := .bool _) rfl rfl rfl ?_
      have hp : pairOk s = _ := rfl; unfold pairA pairB; simp_all [pairOk]
    · skip
      refine AWP.skip ?_
      refine AWP.seq ?_
      refine AWP.region rfl ?_
      refine AOps.val (Gv.move (v := .str _) rfl) ?_
      refine AOps.val (Gv.move (v := .str _) rfl) ?_
      refine AOps.val (Gv.assign (v := .str _) rfl) ?_
      refine AOps.val (Gv.assign (v := .str _) rfl) ?_
      refine AOps.val (Gv.assign (v := .bool _) rfl) ?_
      refine AOps.nil ?_
      refine AWP.ret ?_
      repeat (first | refine aseqQ_ret ?_ | refine ablockQ_ret ?_)
      refine afin.t3 (x := .str _) (y := .str _) (z := .bool _) rfl rfl rfl ?_
      have hp : pairOk s = _ := rfl; unfold pairA pairB; simp_all [pairOk]
def tyWord (t : Int) : ByteArray := if t = 0 then ⟨#[105, 110, 116]⟩ else if t = 1 then ⟨#[98, 111, 111, 108]⟩ else if t = 2 then ⟨#[97, 114, 114]⟩ else ⟨#[]⟩
theorem tyWord_spec (t : Int) : AFun Tryz.prog E 62 [.int .i64 t] (.str (tyWord t)) := by
  refine ACall.intro Tryz.func62 rfl (by decide) rfl ?_
  refine AWP.seq ?_
  refine AWP.region rfl ?_
  refine AOps.val (Gv.assign (v := .str _) rfl) ?_
  refine AOps.nil ?_
  refine AWP.seq ?_
  refine AWP.seq ?_
  refine AWP.region rfl ?_
  refine AOps.val (Gv.move (v := .int _ _) rfl) ?_
  refine AOps.nil ?_
  refine AWP.block ?_
  refine AWP.seq ?_
  refine AWP.region rfl ?_
  refine AOps.val (Gv.eqlI rfl rfl) ?_
  refine AOps.val (Gv.assign (v := .bool _) rfl) ?_
  refine AOps.nil ?_
  refine AWP.cond rfl (fun c3 => ?_) (fun c3 => ?_)
  · skip
    refine AWP.seq ?_
    refine AWP.region rfl ?_
    refine AOps.val (Gv.assign (v := .str _) rfl) ?_
    refine AOps.nil ?_
    refine AWP.ret ?_
    repeat (first | refine aseqQ_ret ?_ | refine ablockQ_ret ?_)
    refine afin.t1 (x := .str _) rfl ?_
    exact congrArg AV.str (by simp_all [tyWord])
  · skip
    refine AWP.seq ?_
    refine AWP.region rfl ?_
    refine AOps.val (Gv.eqlI rfl rfl) ?_
    refine AOps.val (Gv.assign (v := .bool _) rfl) ?_
    refine AOps.nil ?_
    refine AWP.cond rfl (fun c4 => ?_) (fun c4 => ?_)
    · skip
      refine AWP.seq ?_
      refine AWP.region rfl ?_
      refine AOps.val (Gv.assign (v := .str _) rfl) ?_
      refine AOps.nil ?_
      refine AWP.ret ?_
      repeat (first | refine aseqQ_ret ?_ | refine ablockQ_ret ?_)
      refine afin.t1 (x := .str _) rfl ?_
      exact congrArg AV.str (by simp_all [tyWord])
    · skip
      refine AWP.seq ?_
      refine AWP.region rfl ?_
      refine AOps.val (Gv.eqlI rfl rfl) ?_
      refine AOps.val (Gv.assign (v := .bool _) rfl) ?_
      refine AOps.nil ?_
      refine AWP.cond rfl (fun c5 => ?_) (fun c5 => ?_)
      · skip
        refine AWP.seq ?_
        refine AWP.region rfl ?_
        refine AOps.val (Gv.assign (v := .str _) rfl) ?_
        refine AOps.nil ?_
        refine AWP.ret ?_
        repeat (first | refine aseqQ_ret ?_ | refine ablockQ_ret ?_)
        refine afin.t1 (x := .str _) rfl ?_
        exact congrArg AV.str (by simp_all [tyWord])
      · skip
        refine AWP.skip ?_
        refine AWP.seq ?_
        refine AWP.region rfl ?_
        refine AOps.val (Gv.assign (v := .str _) rfl) ?_
        refine AOps.nil ?_
        refine AWP.ret ?_
        repeat (first | refine aseqQ_ret ?_ | refine ablockQ_ret ?_)
        refine afin.t1 (x := .str _) rfl ?_
        exact congrArg AV.str (by simp_all [tyWord])
def tyOf (w : ByteArray) : Int := if w = tyWord 0 then 0 else if w = tyWord 1 then 1 else if w = tyWord 2 then 2 else 0
def isTy (w : ByteArray) : Bool := decide (w = tyWord 0) || (decide (w = tyWord 1) || decide (w = tyWord 2))
theorem tyOf_spec (w : ByteArray) : AFun Tryz.prog E 77 [.str w] (.tup [.int .i64 (tyOf w), .bool (isTy w)]) := by
  refine ACall.intro Tryz.func77 rfl (by decide) rfl ?_
  refine AWP.seq ?_
  refine AWP.region rfl ?_
  refine AOps.val (Gv.assign (v := .int _ _) rfl) ?_
  refine AOps.val (Gv.assign (v := .bool _) rfl) ?_
  refine AOps.nil ?_
  refine AWP.seq ?_
  refine AWP.seq ?_
  refine AWP.region rfl ?_
  refine AOps.val (Gv.assign (v := .int _ _) rfl) ?_
  refine AOps.nil ?_
  refine AWP.block ?_
  refine AWP.loop (γ := Nat) [0] (fun t => [(4, .int .i64 t)]) (fun t => []) (fun t => t ≤ 3 ∧ ∀ q : Nat, q < t → ¬ w = tyWord q) (fun t => 3 - t) 0 ⟨rfl, trivial⟩ ⟨_, (.refl _), rfl⟩ (⟨by omega, by simp⟩) ?_
  rintro t ⟨ht, hq⟩
  refine AWP.seq ?_
  refine AWP.seq ?_
  refine AWP.region rfl ?_
  refine AOps.val (Gv.move (v := .int _ _) rfl) ?_
  refine AOps.val (Gv.lss rfl rfl) ?_
  refine AOps.nil ?_
  refine AWP.condP rfl (fun ct => ?_) (fun ct => ?_)
  · skip
    refine AWP.skip ?_
    refine AWP.seq ?_
    refine AWP.block ?_
    refine AWP.seq ?_
    refine AWP.region rfl ?_
    refine AOps.val (Gv.move (v := .int _ _) rfl) ?_
    refine AOps.callP (tyWord_spec _) rfl ?_
    refine AOps.val (Gv.move (v := .str _) rfl) ?_
    refine AOps.val (Gv.eqlT rfl rfl) ?_
    refine AOps.nil ?_
    refine AWP.cond rfl (fun cw => ?_) (fun cw => ?_)
    · skip
      have hw : tyWord t = w := by simpa using cw
      have h3 : t = 0 ∨ t = 1 ∨ t = 2 := by omega
      refine AWP.seq ?_
      refine AWP.region rfl ?_
      refine AOps.val (Gv.move (v := .int _ _) rfl) ?_
      refine AOps.val (Gv.assign (v := .int _ _) rfl) ?_
      refine AOps.val (Gv.assign (v := .bool _) rfl) ?_
      refine AOps.nil ?_
      refine AWP.ret ?_
      repeat (first | refine aseqQ_ret ?_ | refine ablockQ_ret ?_)
      refine afin.t2 (x := .int _ _) (y := .bool _) rfl rfl ?_
      rcases h3 with rfl | rfl | rfl <;> subst hw <;> rfl
    · skip
      have hw : ¬ tyWord t = w := by simpa using cw
      have hq2 : ∀ q : Nat, q < t + 1 → ¬ w = tyWord q := fun q h => by
        rcases Nat.lt_or_ge q t with h1 | h1
        · exact hq q h1
        · obtain rfl : q = t := by omega
          exact fun e => hw e.symm
      refine AWP.skip ?_
      refine AWP.region rfl ?_
      refine AOps.val (Gv.move (v := .int _ _) rfl) ?_
      refine AOps.val (Gv.add rfl rfl (by unfold I64; omega)) ?_
      refine AOps.val (Gv.assign (v := .int _ _) rfl) ?_
      refine AOps.nil ?_
      exact ⟨t + 1, ⟨rfl, trivial⟩, ⟨rfl, trivial⟩, ⟨_, (.refl _), rfl⟩, ⟨by omega, hq2⟩, by omega⟩
  · skip
    obtain rfl : t = 3 := by omega
    have h0 := hq 0 (by omega)
    have h1 := hq 1 (by omega)
    have h2 := hq 2 (by omega)
    simp only [Int.ofNat_zero, Int.cast_ofNat_Int, Int.natCast_one] at h0 h1 h2
    refine AWP.exit ?_
    refine AWP.seq ?_
    refine AWP.region rfl ?_
    refine AOps.val (Gv.assign (v := .int _ _) rfl) ?_
    refine AOps.val (Gv.assign (v := .bool _) rfl) ?_
    refine AOps.nil ?_
    refine AWP.ret ?_
    repeat (first | refine aseqQ_ret ?_ | refine ablockQ_ret ?_)
    refine afin.t2 (x := .int _ _) (y := .bool _) rfl rfl ?_
    unfold tyOf isTy; rw [if_neg h0, if_neg h1, if_neg h2, decide_eq_false h0, decide_eq_false h1, decide_eq_false h2]; rfl
def varOk (w : ByteArray) : Bool := pairOk w && isTy (pairB w)
def varOf (w : ByteArray) : PVar := ⟨pairA w, tyOf (pairB w)⟩
def varsOk (l : List ByteArray) : Bool := l.all varOk
def varsOf (l : List ByteArray) : List PVar := if varsOk l then l.map varOf else []
theorem zvars_spec (l : List ByteArray) (hl : l.length ≤ 100000) (hs : ∀ w ∈ l, w.size ≤ 100000) (hL : Letters E) (hV : Vars0 E) : AFun Tryz.prog E 48 [.fro 1 (l.map encS)] (.tup [.fro 2 ((varsOf l).map encVar), .bool (varsOk l)]) := by
  refine ACall.intro Tryz.func48 rfl (by decide) rfl ?_
  refine AWP.seq ?_
  refine AWP.region rfl ?_
  refine AOps.val (Gv.assign (v := .raw _) rfl) ?_
  refine AOps.val (Gv.assign (v := .bool _) rfl) ?_
  refine AOps.nil ?_
  refine AWP.seq ?_
  refine AWP.region rfl ?_
  refine AOps.val (Gv.assign (v := .raw _) rfl) ?_
  refine AOps.nil ?_
  refine AWP.seq ?_
  refine AWP.seq ?_
  refine AWP.region rfl ?_
  refine AOps.val (Gv.move (v := .fro _ _) rfl) ?_
  refine AOps.val (Gv.lenM Tryz.underlying62 rfl) ?_
  refine AOps.val (Gv.move (v := .int _ _) rfl) ?_
  refine AOps.nil ?_
  refine AWP.block ?_
  refine adopt_wp (t := 4) (k := 2) (T := 38) rfl ?_
  intro i4
  refine AWP.loop (γ := Nat × Nat) [12, 13] (fun g => [(14, .int .i64 g.1), (4, .own g.2 g.1)]) (fun g => [(g.2, .grow 2 38 (((l.take g.1).map varOf).map encVar).flatten)]) (fun g => g.1 ≤ l.length ∧ (l.take g.1).all varOk) (fun g => l.length - g.1) (0, i4) ⟨rfl, rfl, trivial⟩ ⟨_, (.refl _), rfl⟩ (⟨Nat.zero_le _, rfl⟩) ?_
  rintro ⟨k, io⟩ ⟨hk, ho⟩
  try dsimp only at *
  refine AWP.seq ?_
  refine AWP.region rfl ?_
  refine AOps.val (Gv.lss rfl rfl) ?_
  refine AOps.nil ?_
  refine AWP.seq ?_
  refine AWP.condP rfl (fun ck => ?_) (fun ck => ?_)
  · skip
    have hk2 : k < l.length := by omega
    have hw := hs _ (List.getElem_mem hk2)
    refine AWP.skip ?_
    refine AWP.seq ?_
    refine AWP.block ?_
    refine AWP.seq ?_
    refine AWP.region rfl ?_
    refine AOps.val (Gv.idxM Tryz.underlying62 Tryz.sizeOf9 rfl rfl rfl (List.getElem?_eq_getElem (by omega))) ?_
    refine AOps.val (Gv.load1F (c := .str _) Tryz.isAgg9 rfl) ?_
    refine AOps.val (Gv.assign (v := .str _) rfl) ?_
    refine AOps.nil ?_
    refine AWP.seq ?_
    refine AWP.region rfl ?_
    refine AOps.val (Gv.move (v := .str _) rfl) ?_
    refine AOps.callP (pair_spec l[k] (by omega) hL hV) rfl ?_
    refine AOps.val (Gv.move (v := .tup _) rfl) ?_
    refine AOps.val (Gv.extract (v := .str _) rfl rfl) ?_
    refine AOps.val (Gv.extract (v := .str _) rfl rfl) ?_
    refine AOps.val (Gv.extract (v := .bool _) rfl rfl) ?_
    refine AOps.val (Gv.assign (v := .str _) rfl) ?_
    refine AOps.val (Gv.assign (v := .str _) rfl) ?_
    refine AOps.val (Gv.assign (v := .bool _) rfl) ?_
    refine AOps.nil ?_
    refine AWP.seq ?_
    refine AWP.region rfl ?_
    refine AOps.val (Gv.move (v := .str _) rfl) ?_
    refine AOps.callP (tyOf_spec _) rfl ?_
    refine AOps.val (Gv.move (v := .tup _) rfl) ?_
    refine AOps.val (Gv.extract (v := .int _ _) rfl rfl) ?_
    refine AOps.val (Gv.extract (v := .bool _) rfl rfl) ?_
    refine AOps.val (Gv.assign (v := .int _ _) rfl) ?_
    refine AOps.val (Gv.assign (v := .bool _) rfl) ?_
    refine AOps.nil ?_
    refine AWP.seq ?_
    refine AWP.seq ?_
    refine AWP.cutS (γ := Unit) [4, 7, 10, 12, 13, 14] (fun u => [(34, .bool (!varOk l[k]))]) (fun u => [(io, .grow 2 38 (((l.take k).map varOf).map encVar).flatten)]) (fun u => True) ?_ (fun _ _ h => h) ?_
    · skip
      refine AWP.region rfl ?_
      refine AOps.val (Gv.move (v := .bool _) rfl) ?_
      refine AOps.val (Gv.not rfl) ?_
      refine AOps.val (Gv.move (v := .bool _) rfl) ?_
      refine AOps.case (s := 31) rfl (fun c6 => ?_) (fun c6 => ?_)
      · skip
        refine AOps.guardFd rfl rfl c6 ?_
        refine AOps.guardFd rfl rfl c6 ?_
        refine AOps.val (Gv.pickT (v := .bool _) rfl c6 rfl) ?_
        refine AOps.nil ?_
        exact ⟨(), ⟨rfl, rfl, rfl, rfl, rfl, rfl, trivial⟩, ⟨jb (by simp_all [varOk]), trivial⟩, ⟨_, (.refl _), rfl⟩, trivial⟩
      · skip
        refine AOps.guardT rfl rfl c6 ?_
        refine AOps.val (Gv.move (v := .bool _) rfl) ?_
        refine AOps.guardT rfl rfl c6 ?_
        refine AOps.val (Gv.not rfl) ?_
        refine AOps.val (Gv.pickF (v := .bool _) rfl c6 rfl) ?_
        refine AOps.nil ?_
        exact ⟨(), ⟨rfl, rfl, rfl, rfl, rfl, rfl, trivial⟩, ⟨jb (by simp_all [varOk]), trivial⟩, ⟨_, (.refl _), rfl⟩, trivial⟩
    · skip
      rintro _ _
      refine AWP.cond rfl (fun cv => ?_) (fun cv => ?_)
      · skip
        have hno : varsOk l = false := List.all_eq_false.2 ⟨_, List.getElem_mem hk2, by simpa using cv⟩
        refine AWP.seq ?_
        refine AWP.region rfl ?_
        refine AOps.val (Gv.assign (v := .raw _) rfl) ?_
        refine AOps.val (Gv.assign (v := .bool _) rfl) ?_
        refine AOps.nil ?_
        refine AWP.ret ?_
        repeat (first | refine aseqQ_ret ?_ | refine ablockQ_ret ?_)
        refine GStep.fin (GStep.slot (t := 2) rfl (impNil 2)) ?_
        refine afin.t2 (x := .fro _ _) (y := .bool _) rfl rfl ?_
        unfold varsOf; rw [hno]; rfl
      · skip
        have hyes : varOk l[k] = true := by simpa using cv
        have hgr : (((l.take (k + 1)).map varOf).map encVar).flatten = (((l.take k).map varOf).map encVar).flatten ++ [encVar (varOf l[k])].flatten := by
          rw [List.take_succ_eq_append_getElem hk2, List.map_append]; exact (grow_push rfl).symm
        refine AWP.skip ?_
        refine AWP.region rfl ?_
        refine AOps.val (Gv.move (v := .own _ _) rfl) ?_
        refine AOps.val (Gv.move (v := .str _) rfl) ?_
        refine AOps.val (Gv.move (v := .int _ _) rfl) ?_
        refine AOps.val (Gv.build (cps := [(0, [_]), (1, [_])]) (rs := [_, _]) pl38 rfl rfl rfl) ?_
        refine AOps.buildSliceFF (rows := [[_, _]]) ps23_1 rfl rfl rfl rfl rfl ?_
        refine AOps.appendS (k := 2) Tryz.underlying23 Tryz.type38 rfl rfl rfl rfl rfl (fun _ => .head) (by rw [List.map_map, grow_len (k := 2) (fun _ => rfl), List.length_take, Nat.min_eq_left hk]) (by decide) rfl (by show (_ + _) * 24 ≤ _; simp <;> omega) (by simp <;> omega) ?_
        intro i40
        refine AOps.val (Gv.assign (v := .own _ _) rfl) ?_
        refine AOps.nil ?_
        refine AWP.region rfl ?_
        refine AOps.val (Gv.add rfl rfl (by unfold I64; omega)) ?_
        refine AOps.val (Gv.move (v := .int _ _) rfl) ?_
        refine AOps.nil ?_
        exact ⟨(k + 1, i40), ⟨rfl, rfl, trivial⟩, ⟨rfl, rfl, trivial⟩, ⟨_, (.refl _), by dsimp only; rw [hgr]; rfl⟩, ⟨hk2, by rw [List.take_succ_eq_append_getElem hk2, List.all_append, ho]; simp [hyes]⟩, by dsimp only; omega⟩
  · skip
    obtain rfl : k = l.length := by omega
    rw [List.take_length] at ho ⊢
    have hyes : varsOk l = true := ho
    refine AWP.exit ?_
    refine AWP.seq ?_
    refine AWP.region rfl ?_
    refine AOps.val (Gv.move (v := .own _ _) rfl) ?_
    refine AOps.val (Gv.assign (v := .own _ _) rfl) ?_
    refine AOps.val (Gv.assign (v := .bool _) rfl) ?_
    refine AOps.nil ?_
    refine AWP.ret ?_
    repeat (first | refine aseqQ_ret ?_ | refine ablockQ_ret ?_)
    refine GStep.fin (GStep.know (t := 2) (rows := (l.map varOf).map encVar) rfl .head (by first | (intro r hr; obtain ⟨x, _, rfl⟩ := List.mem_map.1 hr; rfl) | simp [encI, encVar, encPhi, encInst, encBlk]) (by decide) (by simp)) ?_
    refine afin.t2 (x := .fro _ _) (y := .bool _) rfl rfl ?_
    unfold varsOf; rw [hyes]; rfl
end Go.Proofs.YtdkhlgiohpdihaaGreatDoor
namespace Go.Proofs.YtdkhlgiohpdihaaGreatDoor
section
variable {E : World} {P : Program} {env : AEnv} {O : OL} {d ty : Nat} {pos : String} {af : Array Edge} {x : Operand} {t u : TypeId}
theorem Gv.neqNilT {T : TypeId} {v : AV} (ht : P.underlying t = some (.interface (P.methodsAt t))) (hx : aev env x = .ifc T v) : Gv P env O (Oper.mk (some d) (.binOp .neq t x (.const .nilIface) u) ty pos af none) (.bool true) := Gv.ofEv fun I ρ h => by
  have h1 := h.ev x
  rw [hx] at h1
  obtain ⟨w0, e, _⟩ := h1
  exact ⟨_, rfl, fun w => by
    have e2 : Go.Proofs.YtdkhlgiohpdihaaGreatDoor.ev ρ (.const .nilIface) = .nilIface := rfl
    simp only [execOp, e, e2]; simp [eqGuard, run_neq_held_nil _ _ _ _ ht]⟩
theorem Gv.neqNilF (ht : P.underlying t = some (.interface (P.methodsAt t))) (hx : aev env x = .raw .nilIface) : Gv P env O (Oper.mk (some d) (.binOp .neq t x (.const .nilIface) u) ty pos af none) (.bool false) := Gv.ofEv fun I ρ h => by
  have h1 := evRaw h hx
  exact ⟨_, rfl, fun w => by
    have e2 : Go.Proofs.YtdkhlgiohpdihaaGreatDoor.ev ρ (.const .nilIface) = .nilIface := rfl
    simp only [execOp, h1, e2]; simp [eqGuard, run_neq_nil_nil _ _ ht]⟩
end
end Go.Proofs.YtdkhlgiohpdihaaGreatDoor
namespace Go.Proofs.YtdkhlgiohpdihaaGreatDoor
open Go.Proofs Go.Lib Go.Shelf Go.RowKit
set_option maxRecDepth 20000
variable {E : World}
def pint (s : ByteArray) : Option Int := match Lib.parseIntB 64 s.data.toList with
  | .ok v => some v
  | _ => none
def PAns (s : ByteArray) (x : AV) : Prop := (∃ v, pint s = some v ∧ x = .tup [.int .i64 v, .raw .nilIface]) ∨ (pint s = none ∧ ∃ n T p, x = .tup [.int .i64 n, .ifc T (.raw p)])
theorem parse_spec (s : ByteArray) (hs : s.size ≤ 100000) (hV : Vars0 E) : ACall Tryz.prog E 142 [.str s, .int .i64 10, .int .i64 64] [] (fun x O' => ∃ _ : Unit, PAns s x ∧ O' = []) := fun I F w vs h1 h2 => by
  obtain ⟨v, us, rfl, e1, v2, us2, rfl, e2, v3, us3, rfl, e3, e4⟩ := h1
  have e1 : v = .string s := e1
  have e2 : v2 = .int .i64 10 := e2
  have e3 : v3 = .int .i64 64 := e3
  have e4 : us3 = [] := e4
  subst e1 e2 e3 e4
  obtain ⟨ht, L, hL, hS⟩ := h2
  have hL : L = [] := hL
  subst hL
  obtain ⟨ts, ps, hsyn⟩ := hV.syn
  obtain ⟨tr, pr, hran⟩ := hV.ran
  refine Fn.ofCalls Tryz.func142 rfl (by decide) ?_
  rcases hp : Lib.parseIntB 64 s.data.toList with u | _ | _
  · refine (Tryz.strconv_ParseInt_10_at64_ok s (by omega) u hp w).mono fun e w' ⟨he, hw⟩ => ?_
    have hb : Below w.heap.size w w' := by
      rcases hw with rfl | ⟨t, rfl⟩
      · exact Below.refl _ _
      · exact Go.Joins.below_bytesWorld _ _ _ _ (Nat.le_refl _)
    exact ⟨_, he, I, .tup [.int .i64 u, .raw .nilIface], [], .refl _, ⟨[_, _], rfl, _, _, rfl, rfl, _, _, rfl, rfl, rfl⟩, ⟨ht, [], rfl, hS.below hb⟩, (), .inl ⟨u, by unfold pint; rw [hp], rfl⟩, rfl⟩
  · refine (Tryz.strconv_ParseInt_10_at64_syntax s (by omega) hp _ w (cell_up hsyn hS.belowE) (.inr ⟨_, _, rfl⟩)).mono fun e w' ⟨N, he, _, _, hb⟩ => ?_
    exact ⟨_, he, I, .tup [.int .i64 0, .ifc _ (.raw _)], [], .refl _, ⟨[_, _], rfl, _, _, rfl, rfl, _, _, rfl, ⟨_, rfl, rfl⟩, rfl⟩, ⟨ht, [], rfl, hS.below hb⟩, (), .inr ⟨by unfold pint; rw [hp], _, _, _, rfl⟩, rfl⟩
  · refine (Tryz.strconv_ParseInt_10_at64_range s (by omega) hp _ w (cell_up hran hS.belowE) (.inr ⟨_, _, rfl⟩)).mono fun e w' ⟨N, he, _, _, hb⟩ => ?_
    exact ⟨_, he, I, .tup [.int .i64 _, .ifc _ (.raw _)], [], .refl _, ⟨[_, _], rfl, _, _, rfl, rfl, _, _, rfl, ⟨_, rfl, rfl⟩, rfl⟩, ⟨ht, [], rfl, hS.below hb⟩, (), .inr ⟨by unfold pint; rw [hp], _, _, _, rfl⟩, rfl⟩
def numOk (s : ByteArray) : Bool := match pint s with
  | some v => decide ((⟨(Lib.itoa v).toArray⟩ : ByteArray) = s)
  | none => false
def numV (s : ByteArray) : Int := if numOk s then (pint s).getD 0 else 0
theorem pint_range {s : ByteArray} {v : Int} (h : pint s = some v) : -9223372036854775808 ≤ v ∧ v ≤ 9223372036854775807 := by
  unfold pint at h
  split at h
  · rename_i u hu
    cases h
    have := Lib.parseIntB_bounds hu
    simp at this; omega
  · cases h
theorem number_spec (s : ByteArray) (hs : s.size ≤ 100000) (hT : Pows E) (hV : Vars0 E) : AFun Tryz.prog E 135 [.str s] (.tup [.int .i64 (numV s), .bool (numOk s)]) := by
  refine ACall.intro Tryz.func135 rfl (by decide) rfl ?_
  refine AWP.seq ?_
  refine AWP.region rfl ?_
  refine AOps.val (Gv.assign (v := .int _ _) rfl) ?_
  refine AOps.val (Gv.assign (v := .bool _) rfl) ?_
  refine AOps.nil ?_
  refine AWP.seq ?_
  refine AWP.region rfl ?_
  refine AOps.val (Gv.move (v := .str _) rfl) ?_
  refine AOps.callA rfl (Part.perm (.rest _)) (parse_spec s hs hV) ?_
  rintro r8 O8 ⟨_, hans, rfl⟩
  rcases hans with ⟨v, hv, rfl⟩ | ⟨hn, n, T, p, rfl⟩
  · skip
    have hr := pint_range hv
    have hno : numOk s = decide ((⟨(Lib.itoa v).toArray⟩ : ByteArray) = s) := by unfold numOk; rw [hv]
    refine AOps.val (Gv.move (v := .tup _) rfl) ?_
    refine AOps.val (Gv.extract (v := .int _ _) rfl rfl) ?_
    refine AOps.val (Gv.extract (v := .raw _) rfl rfl) ?_
    refine AOps.val (Gv.assign (v := .int _ _) rfl) ?_
    refine AOps.val (Gv.assign (v := .raw _) rfl) ?_
    refine AOps.nil ?_
    refine AWP.seq ?_
    refine AWP.seq ?_
    refine AWP.region rfl ?_
    refine AOps.val (Gv.move (v := .raw _) rfl) ?_
    refine AOps.val (Gv.neqNilF (by kernel_rfl) rfl) ?_
    refine AOps.val (Gv.move (v := .bool _) rfl) ?_
    refine AOps.guardT rfl rfl rfl ?_
    refine AOps.val (Gv.move (v := .int _ _) rfl) ?_
    refine AOps.guardT rfl rfl rfl ?_
    refine AOps.callP (formatInt_spec v hr hT) rfl ?_
    refine AOps.guardT rfl rfl rfl ?_
    refine AOps.val (Gv.move (v := .str _) rfl) ?_
    refine AOps.guardT rfl rfl rfl ?_
    refine AOps.val (Gv.neqT rfl rfl) ?_
    refine AOps.val (Gv.pickF (v := .bool _) rfl rfl rfl) ?_
    refine AOps.nil ?_
    refine AWP.cond rfl (fun c1 => ?_) (fun c1 => ?_)
    · skip
      refine AWP.seq ?_
      refine AWP.region rfl ?_
      refine AOps.val (Gv.assign (v := .int _ _) rfl) ?_
      refine AOps.val (Gv.assign (v := .bool _) rfl) ?_
      refine AOps.nil ?_
      refine AWP.ret ?_
      repeat (first | refine aseqQ_ret ?_ | refine ablockQ_ret ?_)
      refine afin.t2 (x := .int _ _) (y := .bool _) rfl rfl ?_
      unfold numV; rw [hno, hv]; simp_all
    · skip
      refine AWP.skip ?_
      refine AWP.seq ?_
      refine AWP.region rfl ?_
      refine AOps.val (Gv.move (v := .int _ _) rfl) ?_
      refine AOps.val (Gv.assign (v := .int _ _) rfl) ?_
      refine AOps.val (Gv.assign (v := .bool _) rfl) ?_
      refine AOps.nil ?_
      refine AWP.ret ?_
      repeat (first | refine aseqQ_ret ?_ | refine ablockQ_ret ?_)
      refine afin.t2 (x := .int _ _) (y := .bool _) rfl rfl ?_
      unfold numV; rw [hno, hv]; simp_all
  · skip
    have hno : numOk s = false := by unfold numOk; rw [hn]
    refine AOps.val (Gv.move (v := .tup _) rfl) ?_
    refine AOps.val (Gv.extract (v := .int _ _) rfl rfl) ?_
    refine AOps.val (Gv.extract (v := .ifc _ _) rfl rfl) ?_
    refine AOps.val (Gv.assign (v := .int _ _) rfl) ?_
    refine AOps.val (Gv.assign (v := .ifc _ _) rfl) ?_
    refine AOps.nil ?_
    refine AWP.seq ?_
    refine AWP.seq ?_
    refine AWP.region rfl ?_
    refine AOps.val (Gv.move (v := .ifc _ _) rfl) ?_
    refine AOps.val (Gv.neqNilT (by kernel_rfl) rfl) ?_
    refine AOps.val (Gv.move (v := .bool _) rfl) ?_
    refine AOps.guardFd rfl rfl rfl ?_
    refine AOps.guardFd rfl rfl rfl ?_
    refine AOps.guardFd rfl rfl rfl ?_
    refine AOps.guardFd rfl rfl rfl ?_
    refine AOps.val (Gv.pickT (v := .bool _) rfl rfl rfl) ?_
    refine AOps.nil ?_
    refine AWP.condT rfl rfl ?_
    refine AWP.seq ?_
    refine AWP.region rfl ?_
    refine AOps.val (Gv.assign (v := .int _ _) rfl) ?_
    refine AOps.val (Gv.assign (v := .bool _) rfl) ?_
    refine AOps.nil ?_
    refine AWP.ret ?_
    repeat (first | refine aseqQ_ret ?_ | refine ablockQ_ret ?_)
    refine afin.t2 (x := .int _ _) (y := .bool _) rfl rfl ?_
    unfold numV; rw [hno]; rfl
end Go.Proofs.YtdkhlgiohpdihaaGreatDoor
