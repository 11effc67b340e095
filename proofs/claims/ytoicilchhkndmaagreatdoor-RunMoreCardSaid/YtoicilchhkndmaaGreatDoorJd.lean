/- Arguments of a run in a slice of one's own: read, written. No conditions but bounds. -/
import Derived.Test.YtoicilchhkndmaaGreatDoorJc
import Derived.ProofKit
import Derived.OpenShut
import Derived.Deep.Matrix
import Derived.Lib.LaidU8
import Derived.Lib.LaidTab
import Derived.MapKept
import Derived.WideMake
import Derived.Laws.Cover4
import Derived.WideLaws
import Derived.Lib.AppendZeros
import Derived.Lib.Builder
import Derived.Lib.AppendStr
import Derived.Lib.UnsafeStr
import Derived.Laws.Externs
import Derived.Lib.MapLaws
import Derived.Test.YtoicilchhkndmaaGreatDoorJa
import Derived.Sort.Grow
set_option linter.unusedVariables false
set_option linter.unusedSimpArgs false
set_option linter.unusedSectionVars false
namespace Go.Proofs.YtoicilchhkndmaaGreatDoor
open Go.Proofs.Tryz
open Go.Proofs Go.Lib Go.Shelf Go.RowKit
set_option maxRecDepth 20000
variable {E : World}
theorem copyF_spec (f : PFunc) (hf : small f) : AFun prog E 23 [.agg (encF f)] (.agg (encF f)) :=
 (copyB_own f hf).know fun I F w v y O' ⟨i, e, hl, _⟩ h1 h2 => by
  subst e
  obtain ⟨J, h3, h4, h5⟩ := Go.Proofs.YtoicilchhkndmaaGreatDoor.know (m := f.blocks.length) .head (by simp [encBlk]) (by decide) (by simp) (hl.sla h2)
  obtain ⟨vs, ev, v1, us1, e1, r1, v2, us2, e2, r2, v3, us3, e3, r3, r4⟩ := h1
  exact ⟨J, .agg (encF f), [], h3, ⟨vs, ev, v1, us1, e1, RepV.mono h3 _ _ r1, v2, us2, e2, RepV.mono h3 _ _ r2, v3, us3, e3, h5 _ r3, r4⟩, h4, rfl⟩
end Go.Proofs.YtoicilchhkndmaaGreatDoor
namespace Go.Proofs.YtoicilchhkndmaaGreatDoor
open Go.Proofs.Tryz
open Go.Proofs Go.Lib Go.Shelf Go.RowKit
set_option maxRecDepth 20000
variable {E : World}
def wV (l : List PVar) : Nat := (l.map fun v => v.name.size).sum
def wP (l : List PPhi) : Nat := (l.map fun p => p.args.length + p.from_.length).sum
def wX (l : List PInst) : Nat := (l.map fun x => x.args.length).sum
def wB (b : PBlock) : Nat := b.name.size + 10 * (b.phis.length + b.insts.length) + wP b.phis + wX b.insts
def wBs (l : List PBlock) : Nat := (l.map wB).sum
theorem wV_succ {l : List PVar} {k : Nat} (h : k < l.length) : wV (l.take (k + 1)) = wV (l.take k) + l[k].name.size := by
 unfold wV; rw [q4 h, List.map_append, List.sum_append]; simp only [List.map_cons, List.map_nil, List.sum_cons, List.sum_nil, Nat.add_zero]
theorem wP_succ {l : List PPhi} {k : Nat} (h : k < l.length) : wP (l.take (k + 1)) = wP (l.take k) + (l[k].args.length + l[k].from_.length) := by
 unfold wP; rw [q4 h, List.map_append, List.sum_append]; simp only [List.map_cons, List.map_nil, List.sum_cons, List.sum_nil, Nat.add_zero]
theorem wX_succ {l : List PInst} {k : Nat} (h : k < l.length) : wX (l.take (k + 1)) = wX (l.take k) + l[k].args.length := by
 unfold wX; rw [q4 h, List.map_append, List.sum_append]; simp only [List.map_cons, List.map_nil, List.sum_cons, List.sum_nil, Nat.add_zero]
theorem wBs_succ {l : List PBlock} {k : Nat} (h : k < l.length) : wBs (l.take (k + 1)) = wBs (l.take k) + wB l[k] := by
 unfold wBs; rw [q4 h, List.map_append, List.sum_append]; simp only [List.map_cons, List.map_nil, List.sum_cons, List.sum_nil, Nat.add_zero]
def littleB (b : PBlock) : Prop := b.name.size ≤ 400 ∧ b.phis.length ≤ 400 ∧ b.insts.length ≤ 400 ∧ (∀ p ∈ b.phis, p.args.length ≤ 400 ∧ p.from_.length ≤ 400) ∧ ∀ x ∈ b.insts, x.args.length ≤ 400
def little (f : PFunc) : Prop := f.vars.length ≤ 100 ∧ f.blocks.length ≤ 40 ∧ f.params.length ≤ 20 ∧ (∀ v ∈ f.vars, v.name.size ≤ 400) ∧ (∀ b ∈ f.blocks, littleB b) ∧ (f.blocks ≠ [] → wV f.vars + wBs f.blocks ≤ 4000)
theorem little.small {f : PFunc} (h : little f) : small f := by
 obtain ⟨h1, h2, h3, h4, h5, _⟩ := h
 refine ⟨by omega, by omega, by omega, fun v hv => by have := h4 v hv; omega, fun b hb => ?_⟩
 obtain ⟨g1, g2, g3, g4, g5⟩ := h5 b hb
 exact ⟨by omega, by omega, by omega, fun p hp => by have := g4 p hp; omega, fun x hx => by have := g5 x hx; omega⟩
def wL {α : Type} (l : List α) : Prop := l.length ≤ 9223372036854775807
def wPhi (p : PPhi) : Prop := wL p.args ∧ wL p.from_
def wBlk (b : PBlock) : Prop := wL b.phis ∧ wL b.insts ∧ (∀ p ∈ b.phis, wPhi p) ∧ (∀ x ∈ b.insts, wL x.args)
def wFunc (f : PFunc) : Prop := wL f.vars ∧ wL f.params ∧ wL f.blocks ∧ ∀ b ∈ f.blocks, wBlk b
theorem wL.lt {α : Type} {l : List α} (h : wL l) : l.length ≤ 9223372036854775807 := h
def few1 (f : PFunc) : Bool := decide ((100 : Int) < f.vars.length) || (decide ((40 : Int) < f.blocks.length) || decide ((20 : Int) < f.params.length))
def few2 (b : PBlock) : Bool := decide ((400 : Int) < b.name.size) || (decide ((400 : Int) < b.phis.length) || decide ((400 : Int) < b.insts.length))
end Go.Proofs.YtoicilchhkndmaaGreatDoor
namespace Go.Proofs.YtoicilchhkndmaaGreatDoor
open Go.Proofs.Tryz
open Go.Proofs Go.Lib Go.Shelf Go.RowKit
set_option maxRecDepth 20000
variable {E : World}
end Go.Proofs.YtoicilchhkndmaaGreatDoor
namespace Go.Proofs.YtoicilchhkndmaaGreatDoor
open Go.Proofs.Tryz
open Go.Proofs Go.Lib Go.Shelf Go.RowKit
set_option maxRecDepth 20000
variable {E : World}
theorem rows_27 : ∀ r ∈ kindT, r.1 ≠ ⟨#[]⟩ := by decide
theorem word_ne {op : Int} (h : 0 ≤ op ∧ op ≤ 26) : (kRow op).1 ≠ ⟨#[]⟩ := by
 have hm : kRow op ∈ kindT := by
  unfold kRow
  rw [if_pos h.1, q3 (show _ < 27 by omega)]
  exact q6 _
 exact rows_27 _ hm
theorem word_num : ∀ j : Nat, j < 27 → isNum (j : Int) = (decide ((kRow (j : Int)).1 = ⟨#[99, 111, 110, 115, 116]⟩) || decide ((kRow (j : Int)).1 = ⟨#[112, 105]⟩)) := by decide
theorem wordB_num {x : PInst} (h : 0 ≤ x.op ∧ x.op ≤ 26) : wordB x = isNum x.op := by
 have := word_num x.op.toNat (by omega)
 rw [Int.toNat_of_nonneg h.1] at this
 unfold wordB; exact this.symm
theorem takes_len (op : Int) : (takesL op).length = (kRow op).2.1.size := by unfold takesL; rw [List.length_map]; exact Array.length_toList
theorem bytes_nil (b : ByteArray) : b.data.toList.isEmpty = decide (b = ⟨#[]⟩) := by
 obtain ⟨⟨l⟩⟩ := b
 cases l <;> simp
theorem makesB_eq (op : Int) : makesB op = !decide ((kRow op).2.2 = ⟨#[]⟩) := by unfold makesB; rw [bytes_nil]
theorem kRow_none {op : Int} (h : ¬ (0 ≤ op ∧ op ≤ 26)) : kRow op = (⟨#[]⟩, ⟨#[]⟩, ⟨#[]⟩) := kRow_out (by unfold isOp; simp; omega)
theorem instOK_iff (f : PFunc) (x : PInst) : instOK f x = true ↔ InstP f x := by
 by_cases h : 0 ≤ x.op ∧ x.op ≤ 26
 ·have hw := word_ne h
  have hn := wordB_num h
  unfold instOK inst1 inst2 InstP bad2
  rw [takes_len, makesB_eq, hn]
  by_cases h1 : x.args.length = (kRow x.op).2.1.size <;> by_cases h2 : (kRow x.op).2.2 = ⟨#[]⟩ <;> by_cases h3 : x.dst = -1 <;> by_cases h4 : x.num = 0 <;> by_cases h5 : x.args.all (hasV f) = true <;> simp_all [Int.ofNat_inj] <;> (try (unfold hasV; simp)) <;> (try grind)
 ·constructor
  ·intro h2
   have := kRow_none h
   unfold instOK inst1 at h2
   rw [this] at h2; simp at h2
  ·intro h2; exact absurd ⟨h2.1, h2.2.1⟩ h
def only (f : PFunc) (x : PInst) : PFunc := { f with blocks := [⟨⟨#[111, 110, 108, 121]⟩, [], [x], ⟨0, 0, 0, 0⟩⟩] }
def ended (f : PFunc) (b0 : PBlock) (bs : List PBlock) (t : PTerm) : PFunc := { f with blocks := { b0 with term := t } :: bs }
end Go.Proofs.YtoicilchhkndmaaGreatDoor
namespace Go.Proofs.YtoicilchhkndmaaGreatDoor
open Go.Proofs.Tryz
open Go.ChangeShapes Go.WideShapes Go.ChangeAt Go.RowKit Go.Deep
def full (W : World) : Ghost := fun b => W.heap[b]?
theorem full_sl (W : World) : SL (full W) [] W W := ⟨rfl, rfl, rfl, fun _ _ h => h, by simp, by simp, by simp, fun _ _ h => h, (fun _ _ h h2 => by rw [show W.heap[_]? = some _ from h] at h2; cases h2), by simp⟩
def I0 (W : World) : G := ⟨full W, fun _ => none⟩
theorem cell_known {W : World} {p : Addr} {v : Value} (h : W.cell? p = some v) : p = ⟨p.block, p.off, none⟩ ∧ KAt (full W) p.block p.off v := by
 unfold World.cell? at h
 split at h
 ·rename_i c t f hb
  split at h
  ·cases h
  ·rename_i hs
   have : p.spot = none := by simpa using hs
   obtain ⟨b, o, s⟩ := p
   simp only at this
   subst this
   exact ⟨rfl, ⟨c, t, f, hb, h⟩⟩
 ·cases h
def Dec (P : Program) (W : World) (T : TypeId) {α : Type} (enc : α → List AV) (ok : α → Prop) : Prop :=
 ∀ {H : Type} (e : TypeId × Value → H) (held : Bool) (fuel : Nat) (cs : List Value) (x : DataW H × List MemPlace), DataW.trod e P W 0 (fun _ => true) held fuel T cs = some x → ∃ a, ok a ∧ RepL (I0 W) (enc a) cs
section
variable {P : Program} {W : World} {T e : TypeId}
theorem Dec.int {k : IntKind} (hu : P.underlying T = some (.int k)) : Dec P W T (fun x : Int => [.int k x]) (fun x => (Lit.int k x).wf = true) := fun _ _ _ _ _ h => by
 obtain ⟨n, rfl, _, hw⟩ := DataW.trod_int hu h
 exact ⟨n, hw, _, _, rfl, rfl, rfl⟩
theorem Dec.bool (hu : P.underlying T = some .bool) : Dec P W T (fun x : Bool => [.bool x]) (fun _ => True) := fun _ _ _ _ _ h => by
 obtain ⟨n, rfl, _⟩ := DataW.trod_bool hu h
 exact ⟨n, trivial, _, _, rfl, rfl, rfl⟩
theorem Dec.str (hu : P.underlying T = some .string) : Dec P W T (fun x : ByteArray => [.str x]) (fun x => x.size ≤ maxLen) := fun _ _ _ _ _ h => by
 obtain ⟨n, rfl, _, hw⟩ := DataW.trod_string hu h
 exact ⟨n, hw, _, _, rfl, rfl, rfl⟩
theorem Dec.slice {α : Type} {enc : α → List AV} {ok : α → Prop} {k : Nat} (ht : P.underlying T = some (.slice e)) (he : Dec P W e enc ok) (hk : P.cellsOf e = k) (hk0 : 0 < k) :
  Dec P W T (fun xs : List α => [.fro k (xs.map enc)]) (fun xs => (∀ x ∈ xs, ok x) ∧ xs.length ≤ maxLen) := fun en held fuel cs x h => by
 rcases open_slice ht h with ⟨rfl, _⟩ | ⟨a, len, cap, m, n, D, Pl, rfl, _, hl, hc, hm, _, hr⟩
 ·exact ⟨[], ⟨by simp, q5 _⟩, _, _, rfl, ⟨none, 0, 0, rfl, rfl, Nat.le_refl _, fun _ => rfl, trivial⟩, rfl⟩
 ·simp only [if_true] at hm
  have each : ∀ i, i < len → ∃ y : α, ok y ∧ ∃ vs : List Value, vs.length = k ∧ RepL (I0 W) (enc y) vs ∧ ∀ j (u : Value), vs[j]? = some u → W.cell? (a.add (i * k + j)) = some u := by
   intro i hi
   obtain ⟨cs, h1, h2⟩ := hr i (by omega)
   rw [hk] at h1
   obtain ⟨_, hcl, hat⟩ := World.cells?_some h1
   obtain ⟨y, hy, hrep⟩ := he en held n cs _ h2
   refine ⟨y, hy, cs, hcl, hrep, fun j u hu => ?_⟩
   have hj : j < k := by have := (List.getElem?_eq_some_iff.1 hu).1; omega
   have := hat j hj
   rw [Go.Deep.add_add] at this
   rw [this, hu]
  by_cases h0 : len = 0
  ·subst h0
   exact ⟨[], ⟨by simp, q5 _⟩, _, _, rfl, ⟨some a, 0, cap, rfl, rfl, q5 _, fun h => by (cases h), trivial⟩, rfl⟩
  ·obtain ⟨y0, _⟩ := each 0 (by omega)
   have : Inhabited α := ⟨y0⟩
   obtain ⟨Y, hY⟩ := choose_lt each
   have ha : a = ⟨a.block, a.off, none⟩ := by
    obtain ⟨_, vs, hvl, _, hat⟩ := hY 0 (by omega)
    have := hat 0 _ (q3 (show 0 < vs.length by omega))
    rw [Nat.zero_mul] at this
    exact (cell_known (by simpa [Addr.add] using this)).1
   refine ⟨(List.range len).map Y, ⟨?_, by simp; omega⟩, _, _, Z, ⟨some a, len, cap, Z, by simp, hl, fun h => by (cases h), RepR.intro fun j r hj => ?_⟩, Z⟩
   ·intro x hx
    obtain ⟨i, hi, rfl⟩ := List.mem_map.1 hx
    exact (hY i (by simpa using hi)).1
   ·rw [List.getElem?_map, List.getElem?_map] at hj
    have hjl : j < len := by
     rcases Nat.lt_or_ge j len with h | h
     ·exact h
     ·rw [List.getElem?_eq_none (by simpa using h)] at hj; cases hj
    rw [List.getElem?_range hjl] at hj
    simp only [Option.map_some, Option.some.injEq] at hj
    subst hj
    obtain ⟨_, vs, hvl, hrep, hat⟩ := hY j hjl
    refine ⟨a.block, a.off, vs, by rw [← ha], hvl, hrep, fun i u hu => ?_⟩
    have := hat i u hu
    rw [ha, addr_add] at this
    have := (cell_known this).2
    rw [Nat.zero_add, Nat.add_assoc]; exact this
theorem RepL.fld {I : G} {cs : List Value} {e es : List AV} {o k : Nat} (h1 : RepL I e ((cs.drop o).take k)) (h2 : RepL I es (cs.drop (o + k))) : RepL I (e ++ es) (cs.drop o) := by
 have := h1.append h2
 rwa [← List.drop_drop, List.take_append_drop] at this
theorem RepL.fin {I : G} {cs : List Value} {o : Nat} (h : cs.length = o) : RepL I [] (cs.drop o) := List.drop_eq_nil_of_le (by omega)
theorem Dec.at {α : Type} {enc : α → List AV} {ok : α → Prop} {f : Field} {H : Type} {en : TypeId × Value → H} {held : Bool} {n o k i : Nat} {cs : List Value} {xs : List (DataW H × List MemPlace)}
  (h1 : DataW.trod en P W 0 (fun _ => true) held n f.type ((cs.drop f.offset).take (P.cellsOf f.type)) = xs[i]?) (hd : Dec P W f.type enc ok) (h2 : i < xs.length) (ho : f.offset = o) (hk : P.cellsOf f.type = k) :
  ∃ a, ok a ∧ RepL (I0 W) (enc a) ((cs.drop o).take k) := by
 rw [q3 h2, ho, hk] at h1
 exact hd en held n _ _ h1
theorem Dec.pair {α : Type} {enc : α → List AV} {ok : α → Prop} {k : Nat} (ht : P.underlying T = some (.array 2 e)) (he : Dec P W e enc ok) (hk : P.cellsOf e = k) (hT : P.cellsOf T = k + k) :
  Dec P W T (fun x : α × α => enc x.1 ++ enc x.2) (fun x => ok x.1 ∧ ok x.2) := fun en held fuel cs x h => by
 obtain ⟨xs, m, _, _, hl, hxl, hf⟩ := DataW.trod_array ht h
 have h0 := hf 0 (by omega)
 have h1 := hf 1 (by omega)
 rw [q3 (by omega), hk] at h0 h1
 rw [Nat.zero_mul] at h0
 rw [Nat.one_mul] at h1
 obtain ⟨a, ha, ra⟩ := he en held m _ _ h0
 obtain ⟨b, hb, rb⟩ := he en held m _ _ h1
 refine ⟨(a, b), ⟨ha, hb⟩, ?_⟩
 have hcl : cs.length = k + k := by rw [hl, hT]
 have h2 : (cs.drop k).take k = cs.drop k := List.take_of_length_le (by rw [List.length_drop]; omega)
 rw [h2] at rb
 have := ra.append rb
 rw [List.drop_zero, List.take_append_drop] at this
 exact this
end
theorem tabIs_of_reads {P : Program} {W : World} {name : String} {k : IntKind} {zs : List Int} {g : Nat} {t e : TypeId} {n : Nat}
  (hg : P.globalNamed name = some g) (hty : (P.globals[g]?).map (·.type) = some t) (ht : P.underlying t = some (.array n e)) (he : P.underlying e = some (.int k)) (hce : P.cellsOf e = 1) (hct : P.cellsOf t = n)
  (h : Lib.VarReads P W name (Lib.tabData k zs)) : Lib.TabIs P W name k zs := by
 obtain ⟨g', t', cs, fuel, p, hg', ht', hvar, hd⟩ := h
 obtain rfl := Option.some.inj (hg.symm.trans hg')
 obtain rfl := Option.some.inj (hty.symm.trans ht')
 unfold Lib.TabIs
 rw [hvar, ← Lib.cells_of_tab ht he hce hct hd]
theorem AFun.call {P : Program} {W : World} {f : FuncId} {us : List AV} {vs : List Value} {r : AV} (h : AFun P W f us r) (hr : RepL (I0 W) us vs) (hp : r.plain = true) : Calls P f vs.toArray W fun e w' => ∃ v, e = .returned v ∧ RepV (I0 W) r v ∧ Below W.heap.size W w' := by
 have := (h (I0 W) [] W vs hr ⟨⟨0, fun _ _ => rfl⟩, [], rfl, full_sl W⟩).2
 refine this.mono fun e w' ⟨v, he, J, x, O', hle, hx, hS, hxr⟩ => ⟨v, he, ?_, ?_⟩
 ·subst hxr; exact AV.plain_rep hp hx
 ·obtain ⟨_, L, _, hSL⟩ := hS
  exact hSL.belowE
end Go.Proofs.YtoicilchhkndmaaGreatDoor
namespace Go.Proofs.YtoicilchhkndmaaGreatDoor
open Go.Proofs.Tryz
section
variable {E : World} {P : Program} {n : Nat} {env : AEnv} {O O' O'' : OL} {i k m : Nat} {T : TypeId} {rows rows' : List (List AV)}
end
section
variable {E : World} {P : Program} {f : FuncId} {us bs : List AV} {r : AV}
end
section
variable {E : World} {P : Program} {n : Nat} {ops : Array Oper} {K : AEnv → OL → Prop} {env : AEnv} {O O' : OL} {rest : List Oper}
variable {d ty : Nat} {pos : String} {af : Array Edge} {t e : TypeId} {x y : Operand} {L : List (Nat × Obj)}
end
end Go.Proofs.YtoicilchhkndmaaGreatDoor
namespace Go.Proofs.YtoicilchhkndmaaGreatDoor
open Go.Proofs.Tryz
section
variable {E : World} {P : Program} {n : Nat} {ops : Array Oper} {K : AEnv → OL → Prop} {env : AEnv} {O O' : OL} {rest : List Oper}
variable {d ty : Nat} {pos : String} {af : Array Edge} {t e : TypeId} {x y : Operand}
end
end Go.Proofs.YtoicilchhkndmaaGreatDoor
namespace Go.Proofs.YtoicilchhkndmaaGreatDoor
open Go.Proofs.Tryz
def mget (s : ByteArray) : List (ByteArray × Int) → Option Int
 | [] => none
 | (k, v) :: es => if s = k then some v else mget s es
def mset (s : ByteArray) (v : Int) : List (ByteArray × Int) → List (ByteArray × Int)
 | [] => [(s, v)]
 | (k, u) :: es => if s = k then (k, v) :: es else (k, u) :: mset s v es
def encME (p : ByteArray × Int) : Value × Value := (.string p.1, .int .i64 p.2)
def mapP (b : Nat) (es : List (ByteArray × Int)) (L : List (Nat × Obj)) : Prop := ∃ (arr : Array MapEntry) (clock : Nat), L = [(b, .map arr clock)] ∧ arr.toList.map (fun e => (e.key, e.val)) = es.map encME
def mapO (b : Nat) (es : List (ByteArray × Int)) : AObj := .heap (mapP b es)
def mref (b : Nat) : AV := .raw (.map (some b))
theorem findNow_none {s : ByteArray} : ∀ {l : List MapEntry} {es : List (ByteArray × Int)} {i : Nat}, l.map (fun e => (e.key, e.val)) = es.map encME → mget s es = none → Instr.findNow .string (.string s) l i = some none
 | [], [], _, _, _ => rfl
 | [], _ :: _, _, h, _ => by cases h
 | _ :: _, [], _, h, _ => by cases h
 | e :: l, (k, v) :: es, i, h, hg => by
  simp only [List.map_cons, List.cons.injEq, encME, Prod.mk.injEq] at h
  obtain ⟨⟨h1, _⟩, h2⟩ := h
  simp only [mget] at hg
  split at hg
  ·cases hg
  ·rename_i hne
   unfold Instr.findNow
   rw [h1]
   have : (s == k) = false := Bool.eq_false_iff.2 fun h => hne ((MapKept.bytes_beq s k).1 h)
   simp only [Instr.sameNow, this]
   exact findNow_none h2 hg
theorem findNow_some {s : ByteArray} {u : Int} : ∀ {l : List MapEntry} {es : List (ByteArray × Int)} {i : Nat}, l.map (fun e => (e.key, e.val)) = es.map encME → mget s es = some u →
  ∃ j, Instr.findNow .string (.string s) l i = some (some (i + j, .int .i64 u)) ∧ (∃ e, l[j]? = some e ∧ e.key = .string s) ∧ ∀ v, es.set j (s, v) = mset s v es
 | [], [], _, _, hg => by cases hg
 | [], _ :: _, _, h, _ => by cases h
 | _ :: _, [], _, h, _ => by cases h
 | e :: l, (k, v) :: es, i, h, hg => by
  simp only [List.map_cons, List.cons.injEq, encME, Prod.mk.injEq] at h
  obtain ⟨⟨h1, h3⟩, h2⟩ := h
  simp only [mget] at hg
  unfold Instr.findNow
  rw [h1]
  split at hg
  ·rename_i heq
   subst heq
   cases hg
   refine ⟨0, ?_, ⟨e, Z, h1⟩, fun v=>?_⟩
   ·have hss : (s == s) = true := (MapKept.bytes_beq s s).2 rfl
    simp only [Instr.sameNow, hss]
    rw [h3]; rfl
   ·simp [mset]
  ·rename_i hne
   have hb : (s == k) = false := Bool.eq_false_iff.2 fun h => hne ((MapKept.bytes_beq s k).1 h)
   obtain ⟨j, g1, g2, g3⟩ := findNow_some (i := i + 1) h2 hg
   refine ⟨j + 1, ?_, by simpa using g2, fun v=>?_⟩
   ·simp only [Instr.sameNow, hb, g1]
    congr 3; omega
   ·simp [mset, hne, g3]
section
variable {E : World} {P : Program} {n : Nat} {ops : Array Oper} {K : AEnv → OL → Prop} {env : AEnv} {O O' : OL} {rest : List Oper}
variable {d ty : Nat} {pos : String} {af : Array Edge} {t e kt : TypeId} {x y z : Operand} {b i : Nat} {es : List (ByteArray × Int)}
theorem AOps.makeMap (k : ∀ b, AOps P E ops K rest (aupd env d (mref b)) ((0, mapO b []) :: O)) : AOps P E ops K (Oper.mk (some d) (.makeMap t none) ty pos af none :: rest) env O := fun I F ρ w h1 ⟨ht, L, hL, hS⟩ => by
 refine Ops.step Z ?_
 unfold OpW
 have : (execOp (Go.Proofs.YtoicilchhkndmaaGreatDoor.ev ρ) (Oper.mk (some d) (.makeMap t none) ty pos af none)).run P w = .ok (.value (.map (some w.heap.size))) (w.alloc (.map #[] 0)) := by
  simp only [execOp, Option.map_none]
  rw [Sem.run_bind, run_makeMap_plain]; rfl
 rw [this]
 exact k w.heap.size I F _ _ (h1.upd d rfl) ⟨ht, (w.heap.size, .map #[] 0) :: L, ⟨[_], L, rfl, ⟨#[], 0, rfl, rfl⟩, hL⟩, hS.alloc _⟩
theorem map_in {I : G} {L : List (Nat × Obj)} (hO : Has O i (mapO b es)) (hL : RepOs I O L) : ∃ (arr : Array MapEntry) (clock : Nat), (b, Obj.map arr clock) ∈ L ∧ arr.toList.map (fun e => (e.key, e.val)) = es.map encME := by
 obtain ⟨O', hO⟩ := hO
 obtain ⟨A, B, hp, ⟨arr, clock, rfl, h2⟩, _⟩ := hO.rep hL
 exact ⟨arr, clock, hp.mem_iff.2 (by simp), h2⟩
theorem AOps.mapSet {s : ByteArray} {v : Int} (ht : P.underlying t = some (.map kt e)) (hk : P.underlying kt = some .string) (hx : aev env x = mref b) (hy : aev env y = .str s) (hz : aev env z = .int .i64 v) (hO : Put O i (mapO b es) (mapO b (mset s v es)) O')
  (k : AOps P E ops K rest env O') : AOps P E ops K (Oper.mk none (.mapUpdate t x y z) ty pos af none :: rest) env O := fun I F ρ w h1 ⟨htop, L, hL, hS⟩ => by
 have hx := evRaw h1 hx
 have hy := evT h1 hy
 have hz := evI h1 hz
 obtain ⟨A, B, hp, ⟨arr, clock, rfl, he⟩, hback⟩ := hO.rep hL
 have hS2 : SL I.k ((b, .map arr clock) :: (B ++ F)) E w := hS.perm ((hp.append_right F).symm)
 have hb := hS2.own _ (.head _)
 simp only at hb
 have hc : (Instr.checkKey false 10000 kt (.string s)).run P w = .ok () w := MapKept.run_checkKey (k := .string s) hk (by simp [MapKept.IsKey]) false 9999
 have fin : ∀ (arr' : Array MapEntry) (clock' : Nat), arr'.toList.map (fun e => (e.key, e.val)) = (mset s v es).map encME →
   (execOp (Go.Proofs.YtoicilchhkndmaaGreatDoor.ev ρ) (Oper.mk none (.mapUpdate t x y z) ty pos af none)).run P w = .ok .skip { w with heap := w.heap.setIfInBounds b (.map arr' clock') } → Ops P ops (postK I F E K) (Oper.mk none (.mapUpdate t x y z) ty pos af none :: rest) ρ w := fun arr' clock' he' hrun => by
  refine Ops.step Z ?_
  unfold OpW
  rw [hrun]
  obtain ⟨L', h7, h8⟩ := hback (G.le.refl I) (A' := [(b, .map arr' clock')]) ⟨arr', clock', rfl, he'⟩
  have hh := MapKept.heap_set (o' := .map arr' clock') hb
  have hS3 : SL I.k ((b, .map arr' clock') :: (B ++ F)) E { w with heap := w.heap.setIfInBounds b (.map arr' clock') } := hS2.turn rfl rfl rfl hh.1 hh.2
  exact k I F ρ _ h1 ⟨htop, L', h7, hS3.perm (h8.append_right F)⟩
 cases hg : mget s es with
 | none =>
  have hf := findNow_none (i := 0) he hg
  refine fin (arr.push { key := .string s, val := .int .i64 v, born := clock }) (clock + 1) ?_ ?_
  ·have hset : ∀ es : List (ByteArray × Int), mget s es = none → mset s v es = es ++ [(s, v)] := fun es => by
    induction es with
    | nil => intro _; rfl
    | cons x es ih =>
     obtain ⟨k, u⟩ := x
     intro hg
     simp only [mget] at hg
     split at hg
     ·cases hg
     ·rename_i hne; simp [mset, hne, ih hg]
   rw [hset es hg]
   simp [he, encME]
  ·simp [execOp, hx, hy, hz, Instr.mapUpdate, run_underlying ht, MapKept.run_getObj_map hb, hc, MapKept.run_findKey hk hf, MapKept.run_setObj_map _ hb, Result.andThen]
 | some u =>
  obtain ⟨j, hf, ⟨e0, hj, hkey⟩, hset⟩ := findNow_some (i := 0) he hg
  rw [Nat.zero_add] at hf
  have hj' : arr[j]? = some e0 := by rw [← Array.getElem?_toList]; exact hj
  refine fin (arr.modify j fun e => { e with key := .string s, val := .int .i64 v }) clock ?_ ?_
  ·rw [← hset v, List.map_set]
   have hjl : j < arr.toList.length := (List.getElem?_eq_some_iff.1 hj).1
   have : (arr.modify j fun e => { e with key := .string s, val := .int .i64 v }).toList = arr.toList.set j { e0 with key := .string s, val := .int .i64 v } := by
    apply List.ext_getElem?
    intro q
    rw [Array.getElem?_toList, Array.getElem?_modify]
    by_cases hq : j = q
    ·subst hq
     rw [if_pos rfl, hj', List.getElem?_set_self hjl]; rfl
    ·rw [if_neg hq, List.getElem?_set_ne hq, Array.getElem?_toList]
   rw [this, List.map_set, he]; rfl
  ·have hkeep : (Instr.keyThatStays (.string s) (.string s)).run P w = .ok (.string s) w := by
    have hss : (s == s) = true := (MapKept.bytes_beq s s).2 rfl
    simp [Instr.keyThatStays, Instr.sameBits, hss]
   simp [execOp, hx, hy, hz, Instr.mapUpdate, run_underlying ht, MapKept.run_getObj_map hb, hc, MapKept.run_findKey hk hf, MapKept.run_setObj_map _ hb, Result.andThen, hj', hkey, hkeep]
end
end Go.Proofs.YtoicilchhkndmaaGreatDoor
namespace Go.Proofs.YtoicilchhkndmaaGreatDoor
open Go.Proofs.Tryz
section
variable {E : World} {P : Program} {n : Nat} {ops : Array Oper} {K : AEnv → OL → Prop} {env : AEnv} {O O' : OL} {rest : List Oper} {R : AV → OL → Prop}
variable {d ty : Nat} {pos : String} {af : Array Edge} {t e : TypeId} {x y : Operand}
theorem afin.c1t {t u T i : Nat} {T' : TypeId} {cs : List AV} {n : Nat} {y : AV} (hv : env t = .po i 0) (hu : env u = y) (hO : Has O i (.cells T' cs)) (ha : ∀ w, (isAgg T).run P w = .ok true w) (hs : ∀ w, (sizeOf T).run P w = .ok n w) (hn : cs.length = n) (h : R (.tup [.agg cs, y]) O) :
  afin P E #[.cell t T, .tmp u] R .ret env O := afin.of (x := .tup [.agg cs, y]) (fun I F ρ w h1 h2 => by
 obtain ⟨L, hL, hS⟩ := h2.2
 have h3 := h1 t
 rw [hv] at h3
 obtain ⟨b, c, e1, e⟩ := h3
 obtain ⟨b', c', vs, e2, h4, hm⟩ := hO.cells hL
 rw [e1] at e2; cases e2
 have hl := run_loadVar_agg (P := P) (w := w) (b := b) (off := 0) ha (cs := vs) (by rw [h4.length, hn]; exact hs) (fun j v hj => by
  rw [Nat.zero_add]
  exact hS.at_ (.inr ⟨_, _, _, List.mem_append_left _ hm, by rw [List.getElem?_toArray]; exact hj⟩))
 exact ⟨.tuple #[.agg vs.toArray, ρ u], by simp [resE, e, asAddr, hl], ⟨[_, _], rfl, _, _, rfl, ⟨vs, rfl, h4⟩, _, _, rfl, hu ▸ h1 u, rfl⟩⟩) h
theorem run_storeRow {b off n : Nat} {vs : List Value} {T : TypeId} {old : List Value} {w : World} (hn : vs.length = n) (h1c : ∀ u ∈ vs, u.oneCell' = true) (hb : off + n ≤ old.length) (hown : w.heap[b]? = some (.cells old.toArray T (0, 0))) :
  (storeCells (⟨b, off, none⟩ : Addr) vs 0).run P w = .ok () (w.setRow b (old.take off ++ vs ++ old.drop (off + n)).toArray) := by
 rw [run_storeCells_at (P := P) b off T vs 0 old.toArray w hown (by simp; omega) h1c]
 simp [hn]
end
end Go.Proofs.YtoicilchhkndmaaGreatDoor
namespace Go.Proofs.YtoicilchhkndmaaGreatDoor
open Go.Proofs.Tryz
open Go.Proofs Go.Lib Go.Shelf Go.RowKit
set_option maxRecDepth 20000
variable {E : World}
def letterC (c : Int) : Bool := isLetterU c && !decide (c = 65533)
def digitC (c : Int) : Bool := decide (48 ≤ c) && decide (c ≤ 57)
def innerC (c : Int) : Bool := letterC c || (digitC c || (decide (c = 46) || decide (c = 95)))
theorem zletter_spec (c : Int) (h1 : -2147483648 ≤ c) (h2 : c ≤ 2147483647) (hL : Letters E) : AFun prog E 126 [.int .i32 c] (.bool (letterC c)) := by
 refine zn func126 Z (by decide) Z<|zSr<|zVzAb Z<|z6<|zSr<|zVzMi Z<|zd (letter_spec c h1 h2 hL) Z<|zVzMb Z<|zx (s := 5) Z (fun c1=>?_) (fun c1=>?_)
 ·refine za Z Z c1<|zVzMi Z<|za Z Z c1<|z7 (yq Z Z)<|zVzPt Z c1 Z<|zVzAb Z<|z6<|ze<|zk (x := .bool _) Z ?_
  exact jb (by simp_all [letterC])
 ·refine z8 Z Z c1<|z8 Z Z c1<|zVzPf Z c1 Z<|zVzAb Z<|z6<|ze<|zk (x := .bool _) Z ?_
  exact jb (by simp_all [letterC])
theorem zdigit_spec (c : Int) : AFun prog E 148 [.int .i32 c] (.bool (digitC c)) := by
 refine zn func148 Z (by decide) Z<|zSr<|zVzAb Z<|z6<|zSr<|zVzMi Z<|z7 (Gv.geq Z Z)<|zVzMb Z<|zx (s := 5) Z (fun c2=>?_) (fun c2=>?_)
 ·refine za Z Z c2<|zVzMi Z<|za Z Z c2<|z7 (Gv.leq Z Z)<|zVzPt Z c2 Z<|zVzAb Z<|z6<|ze<|zk (x := .bool _) Z ?_
  exact jb (by simp_all [digitC] <;> (intros; omega))
 ·refine z8 Z Z c2<|z8 Z Z c2<|zVzPf Z c2 Z<|zVzAb Z<|z6<|ze<|zk (x := .bool _) Z ?_
  exact jb (by simp_all [digitC] <;> (intros; omega))
theorem zinner_spec (c : Int) (h1 : -2147483648 ≤ c) (h2 : c ≤ 2147483647) (hL : Letters E) : AFun prog E 127 [.int .i32 c] (.bool (innerC c)) := by
 refine zn func127 Z (by decide) Z<|zSr<|zVzAb Z<|z6<|zSr<|zVzMi Z<|zd (zletter_spec c h1 h2 hL) Z<|zVzMb Z<|zx (s := 5) Z (fun c3=>?_) (fun c3=>?_)
 ·refine z8 Z Z c3<|z8 Z Z c3<|zVzPt Z c3 Z<|zVzMb Z<|z8 Z Z Z<|z8 Z Z Z<|zVzPt Z Z Z<|zVzMb Z<|z8 Z Z Z<|z8 Z Z Z<|zVzPt Z Z Z<|zVzAb Z<|z6<|ze<|zk (x := .bool _) Z ?_
  exact jb (by simp_all [innerC])
 ·refine za Z Z c3<|zVzMi Z<|za Z Z c3<|zd (zdigit_spec _) Z<|zVzPf Z c3 Z<|zVzMb Z<|zx (s := 9) Z (fun c4=>?_) (fun c4=>?_)
  ·refine z8 Z Z c4<|z8 Z Z c4<|zVzPt Z c4 Z<|zVzMb Z<|z8 Z Z Z<|z8 Z Z Z<|zVzPt Z Z Z<|zVzAb Z<|z6<|ze<|zk (x := .bool _) Z ?_
   exact jb (by simp_all [innerC])
  ·refine za Z Z c4<|zVzMi Z<|za Z Z c4<|zVGveqlI Z Z<|zVzPf Z c4 Z<|zVzMb Z<|zx (s := 13) Z (fun c5=>?_) (fun c5=>?_)
   ·refine z8 Z Z c5<|z8 Z Z c5<|zVzPt Z c5 Z<|zVzAb Z<|z6<|ze<|zk (x := .bool _) Z ?_
    exact jb (by simp_all [innerC])
   ·refine za Z Z c5<|zVzMi Z<|za Z Z c5<|zVGveqlI Z Z<|zVzPf Z c5 Z<|zVzAb Z<|z6<|ze<|zk (x := .bool _) Z ?_
    exact jb (by simp_all [innerC])
def runesFrom (s : ByteArray) (p : Nat) : List Int := if h : p < s.size then ((Utf8.decode s p).1 : Int) :: runesFrom s (p + (Utf8.decode s p).2) else []
termination_by s.size - p
decreasing_by have := (decode_ok s p).1; omega
theorem runesFrom_lt {s : ByteArray} {p : Nat} (h : p < s.size) : runesFrom s p = ((Utf8.decode s p).1 : Int) :: runesFrom s (p + (Utf8.decode s p).2) := by rw [runesFrom, dif_pos h]
theorem runesFrom_ge {s : ByteArray} {p : Nat} (h : ¬ p < s.size) : runesFrom s p = [] := by rw [runesFrom, dif_neg h]
theorem runesFrom_len (s : ByteArray) : ∀ k p, s.size - p ≤ k → (runesFrom s p).length ≤ k := by
 intro k
 induction k with
 | zero => intro p h; rw [runesFrom_ge (by omega)]; simp
 | succ k ih =>
  intro p h
  by_cases hp : p < s.size
  ·rw [runesFrom_lt hp]
   have := (decode_ok s p).1
   have := ih (p + (Utf8.decode s p).2) (by omega)
   simp; omega
  ·rw [runesFrom_ge hp]; simp
theorem runes_spec (s : ByteArray) (hs : s.size ≤ 140737488355328) : AFun prog E 128 [.str s] (.int .i64 (runesFrom s 0).length) := by
 have h0 := runesFrom_len s s.size 0 (by omega)
 refine zn func128 Z (by decide) Z<|zSr<|zVzAi Z<|z6<|zSr<|zVzAi Z<|z6<|zc<|zSr<|z7 (yy (v := .str _) Z)<|AOps.rangeT jr Z<|fun i5 => z6<|zi<|yg (γ := Nat × Nat) [5] (fun g => [(3, .int .i64 g.2)]) (fun g => [(i5, .iter s g.1)]) (fun g => g.2 + (runesFrom s g.1).length = (runesFrom s 0).length) (fun g => s.size - g.1) (0, 0) zR1 zLe (by simp) ?_
 rintro ⟨p, n⟩ hp
 try dsimp only at *
 by_cases hlt : p < s.size
 ·have hd := (decode_ok s p).1
  rw [runesFrom_lt hlt] at hp
  simp only [List.length_cons] at hp
  refine zSr<|AOps.nextT Z .head hlt<|z7 (zXb Z Z)<|z6<|zc<|zy Z Z<|zj<|zi<|zRg<|zVzMi Z<|zVzAd Z Z<|zVzAi Z<|z6 ?_
  exact ⟨(p + (Utf8.decode s p).2, n + 1), zR1, zR1, zLe, by dsimp only; omega, by dsimp only; omega⟩
 ·rw [runesFrom_ge hlt] at hp
  simp only [List.length_nil] at hp
  refine zSr<|AOps.nextTover Z .head hlt<|z7 (zXb Z Z)<|z6<|zc<|zb Z Z<|yf<|zSr<|zVzMi Z<|zVzAi Z<|z6<|ze<|zk (x := .int _ _) Z ?_
  exact congrArg (AV.int .i64) (by omega)
def nmGo (s : ByteArray) (p : Nat) : Bool := if h : p < s.size then (if (decide (p = 0) && !letterC ((Utf8.decode s p).1 : Int)) || !innerC ((Utf8.decode s p).1 : Int) then false else nmGo s (p + (Utf8.decode s p).2)) else (decide (¬ s = ⟨#[]⟩) && decide (((runesFrom s 0).length : Int) ≤ 16))
termination_by s.size - p
decreasing_by have := (decode_ok s p).1; omega
def scanName (s : ByteArray) : Bool := nmGo s 0
theorem zname_spec (s : ByteArray) (hs : s.size ≤ 140737488355328) (hL : Letters E) : AFun prog E 88 [.str s] (.bool (scanName s)) := by
 refine zn func88 Z (by decide) Z<|zSr<|zVzAb Z<|z6<|zc<|zSr<|z7 (yy (v := .str _) Z)<|AOps.rangeT jr Z<|fun i6 => z6<|zi<|yg (γ := Nat) [0, 6] (fun p => []) (fun p => [(i6, .iter s p)]) (fun p => nmGo s p = scanName s) (fun p => s.size - p) 0 trivial zLe (Z) ?_
 rintro p hp
 by_cases hlt : p < s.size
 ·obtain ⟨hd1, hd2⟩ := decode_ok s p
  have hstep := hp
  rw [nmGo, dif_pos hlt] at hstep
  refine zSr<|AOps.nextT Z .head hlt<|z7 (zXb Z Z)<|z6<|zc<|zy Z Z<|zj<|zi<|zSr<|z7 (zXi Z Z)<|z7 (zXi Z Z)<|zVzAi Z<|zVzAi Z<|z6<|zSr<|zVzMi Z<|zVGveqlI Z Z<|zVzMb Z<|zx (s := 13) Z (fun c6=>?_) (fun c6=>?_)
  ·refine za Z Z c6<|zVzMi Z<|za Z Z c6<|zd (zletter_spec _ (by omega) (by omega) hL) Z<|za Z Z c6<|zVGvnot Z<|zVzPt Z c6 Z<|zVzMb Z<|zx (s := 18) Z (fun c7=>?_) (fun c7=>?_)
   ·refine z8 Z Z c7<|z8 Z Z c7<|z8 Z Z c7<|zVzPt Z c7 Z<|z6<|zy Z Z<|zSr<|zVzAb Z<|z6<|ze<|zk (x := .bool _) Z ?_
    rw [if_pos (by simp_all <;> omega)] at hstep; exact jb hstep
   ·refine za Z Z c7<|zVzMi Z<|za Z Z c7<|zd (zinner_spec _ (by omega) (by omega) hL) Z<|za Z Z c7<|zVGvnot Z<|zVzPf Z c7 Z<|z6<|yb Z (fun c8=>?_) (fun c8=>?_)
    ·refine zSr<|zVzAb Z<|z6<|ze<|zk (x := .bool _) Z ?_
     rw [if_pos (by simp_all <;> omega)] at hstep; exact jb hstep
    ·refine zj ?_
     exact ⟨p + (Utf8.decode s p).2, zR2, trivial, zLe, by rw [if_neg (by simp_all <;> omega)] at hstep; exact hstep, by omega⟩
  ·refine z8 Z Z c6<|z8 Z Z c6<|z8 Z Z c6<|zVzPf Z c6 Z<|zVzMb Z<|za Z Z Z<|zVzMi Z<|za Z Z Z<|zd (zinner_spec _ (by omega) (by omega) hL) Z<|za Z Z Z<|zVGvnot Z<|zVzPf Z Z Z<|z6<|yb Z (fun c9=>?_) (fun c9=>?_)
   ·refine zSr<|zVzAb Z<|z6<|ze<|zk (x := .bool _) Z ?_
    rw [if_pos (by simp_all <;> omega)] at hstep; exact jb hstep
   ·refine zj ?_
    exact ⟨p + (Utf8.decode s p).2, zR2, trivial, zLe, by rw [if_neg (by simp_all <;> omega)] at hstep; exact hstep, by omega⟩
 ·rw [nmGo, dif_neg hlt] at hp
  refine zSr<|AOps.nextTover Z .head hlt<|z7 (zXb Z Z)<|z6<|zc<|zb Z Z<|yf<|zSr<|z7 (yy (v := .str _) Z)<|z7 (Gv.neqT Z Z)<|zVzMb Z<|zx (s := 25) Z (fun c10=>?_) (fun c10=>?_)
  ·refine za Z Z c10<|z7 (yy (v := .str _) Z)<|za Z Z c10<|zd (runes_spec _ (by assumption)) Z<|za Z Z c10<|z7 (Gv.leq Z Z)<|zVzPt Z c10 Z<|zVzAb Z<|z6<|ze<|zk (x := .bool _) Z ?_
   rw [← hp]; exact jb (by simp_all <;> (try omega))
  ·refine z8 Z Z c10<|z8 Z Z c10<|z8 Z Z c10<|zVzPf Z c10 Z<|zVzAb Z<|z6<|ze<|zk (x := .bool _) Z ?_
   rw [← hp]; exact jb (by simp_all <;> (try omega))
end Go.Proofs.YtoicilchhkndmaaGreatDoor
namespace Go.Proofs.YtoicilchhkndmaaGreatDoor
open Go.Proofs.Tryz
section
variable {E : World} {P : Program} {env : AEnv} {O : OL} {d ty : Nat} {pos : String} {af : Array Edge} {x : Operand} {t u : TypeId}
end
end Go.Proofs.YtoicilchhkndmaaGreatDoor
namespace Go.Proofs.YtoicilchhkndmaaGreatDoor
open Go.Proofs.Tryz
section
variable {E : World} {P : Program} {ops : Array Oper} {K : AEnv → OL → Prop} {env : AEnv} {O O' O'' : OL} {rest : List Oper} {n : Nat}
variable {d ty : Nat} {pos : String} {af : Array Edge} {x y z : Operand} {t u e : TypeId}
theorem Gv.idxOL {i n k j r : Nat} {a : Int} {T : TypeId} {cs : List AV} (ht : P.underlying t = some (.slice e)) (hs : ∀ w, (sizeOf e).run P w = .ok k w) (hx : aev env x = .own i n) (hy : aev env y = .int .i64 a) (hi : a = (j : Int)) (hO : Has O i (.grow k T cs)) (hne : cs ≠ []) (hj : j < n) (hr : j * k = r) :
  Gv P env O (Oper.mk (some d) (.indexAddr t x y) ty pos af none) (.po i r) := hr ▸ Gv.idxO ht hs hx hy hi hO hne hj
end
section
variable {P : Program} {E : World} {l : List Oper} {W : Nat → Bool} {fuel : Nat} {listed : Array Bool} {d ty : Nat} {op : Op} {pos : String} {af : Array Edge}
end
theorem GStep.knowP {E : World} {env : AEnv} {O O' : OL} {t i : Nat} {T : TypeId} {cs : List AV} (hv : env t = .po i 0) (hO : Pick O i (.cells T cs) O') : GStep E env O (aupd env t (.pf cs)) O' := fun I F ρ w h1 ⟨ht, L, hL, hS⟩ => by
 obtain ⟨A, B, hp, ⟨b, c, vs, e1, hvs, hvc, rfl⟩, hB⟩ := hO.rep hL
 simp only at e1
 have hS2 : SL I.k ((b, .cells vs.toArray T (0, 0)) :: (B ++ F)) E w := hS.perm ((hp.append_right F).symm)
 obtain ⟨hl, hS3⟩ := SL.freeze hS2
 let J : G := ⟨I.k.put b (.cells vs.toArray T (0, 0)), I.h⟩
 have hle : I.le J := ⟨hl, fun _ _ h => h⟩
 refine ⟨J, hle, fun s=>?_, ht, B, hB.mono hle, hS3⟩
 unfold aupd
 cases hb : Nat.beq s t with
 | false => exact RepV.mono hle _ _ (h1 s)
 | true =>
  have : s = t := Nat.eq_of_beq_eq_true hb
  subst this
  have h2 := h1 s
  rw [hv] at h2
  obtain ⟨b2, c2, e2, e3⟩ := h2
  rw [e1] at e2
  simp only [Option.some.injEq, Prod.mk.injEq] at e2
  obtain ⟨rfl, rfl⟩ := e2
  exact ⟨b, 0, vs, e3, RepL.mono hle _ _ hvs, fun j u hj => ⟨_, _, _, Ghost.put_same _ _ _, by rw [Nat.zero_add, List.getElem?_toArray]; exact hj⟩⟩
end Go.Proofs.YtoicilchhkndmaaGreatDoor
namespace Go.Proofs.YtoicilchhkndmaaGreatDoor
open Go.Proofs.Tryz
section
variable {E : World} {P : Program} {ops : Array Oper} {K : AEnv → OL → Prop} {env : AEnv} {O O' : OL} {rest : List Oper}
variable {d ty : Nat} {pos : String} {af : Array Edge} {x y z : Operand} {t u e : TypeId}
end
end Go.Proofs.YtoicilchhkndmaaGreatDoor
namespace Go.Proofs.YtoicilchhkndmaaGreatDoor
open Go.Proofs.Tryz
section
variable {P : Program} {env : AEnv} {O : OL}
variable {d ty : Nat} {pos : String} {af : Array Edge} {x y : Operand}
theorem Gv.minI {ts : Array TypeId} {k : IntKind} {a b : Int} (hx : aev env x = .int k a) (hy : aev env y = .int k b) : Gv P env O (Oper.mk (some d) (.call { callee := .builtin .min, args := #[x, y], argTypes := ts }) ty pos af none) (.int k (if b < a then b else a)) := Gv.ofEv fun I ρ h => ⟨_, rfl, fun w => by
 simp [execOp, resolve, evI h hx, evI h hy, invoke, builtin, Builtin.min_, Builtin.min2, Result.andThen]⟩
end
end Go.Proofs.YtoicilchhkndmaaGreatDoor
namespace Go.Proofs.YtoicilchhkndmaaGreatDoor
open Go.Proofs.Tryz
open Go.Lib
section
variable {P : Program} {ops : Array Oper} {K : Env → World → Prop} {ρ : Env} {w : World} {rest : List Oper}
variable {d ty : Nat} {pos : String} {af : Array Edge} {x y z : Operand} {t u e : TypeId}
variable {I : Ghost} {O A : List (Nat × Obj)} {E : World}
end
section
variable {E : World} {P : Program} {ops : Array Oper} {K : AEnv → OL → Prop} {env : AEnv} {O O' : OL} {rest : List Oper}
variable {d ty : Nat} {pos : String} {af : Array Edge} {x y z : Operand} {t u e : TypeId}
end
section
variable {E : World} {P : Program} {env : AEnv} {O : OL} {d ty : Nat} {pos : String} {af : Array Edge} {t e kt : TypeId} {x y : Operand} {b i : Nat} {es : List (ByteArray × Int)}
theorem Gv.lookup1S {s : ByteArray} (ht : P.underlying t = some (.map kt e)) (hk : P.underlying kt = some .string) (hz : ∀ w, (zeroValue e).run P w = .ok (.int .i64 0) w) (hx : aev env x = mref b) (hy : aev env y = .str s) (hO : Has O i (mapO b es)) :
  Gv P env O (Oper.mk (some d) (.lookup t x y false) ty pos af none) (.int .i64 ((mget s es).getD 0)) := fun I L E ρ h1 hL => by
 obtain ⟨arr, clock, hm, he⟩ := map_in hO hL
 have hx := evRaw h1 hx
 have hy := evT h1 hy
 refine ⟨.int .i64 ((mget s es).getD 0), Z, fun w J L' hl hS hin => ?_⟩
 have hb := hS.own _ (hin _ hm)
 simp only at hb
 have hc : (Instr.checkKey arr.isEmpty 10000 kt (.string s)).run P w = .ok () w := MapKept.run_checkKey (k := .string s) hk (by simp [MapKept.IsKey]) _ 9999
 cases hg : mget s es with
 | none =>
  have hf := findNow_none (i := 0) he hg
  simp [execOp, Instr.lookup, run_underlying ht, hx, hy, MapKept.run_getObj_map hb, hc, MapKept.run_findKey hk hf, hz, Result.andThen]
 | some u =>
  obtain ⟨j, hf, _⟩ := findNow_some (i := 0) he hg
  simp [execOp, Instr.lookup, run_underlying ht, hx, hy, MapKept.run_getObj_map hb, hc, MapKept.run_findKey hk hf, Result.andThen]
end
theorem mget_set (s v : ByteArray) (n : Int) : ∀ es : List (ByteArray × Int), mget s (mset v n es) = if s = v then some n else mget s es
 | [] => by simp only [mset, mget]
 | (k, u) :: es => by
  simp only [mset]
  split
  ·rename_i h; subst h; simp only [mget]; split <;> rfl
  ·rename_i h
   simp only [mget, mget_set s v n es]
   split
   ·rename_i h2; subst h2; rw [if_neg (fun e => h e.symm)]
   ·rfl
end Go.Proofs.YtoicilchhkndmaaGreatDoor
namespace Go.Proofs.YtoicilchhkndmaaGreatDoor
open Go.Proofs.Tryz
open Go.Proofs Go.Lib Go.Shelf Go.RowKit
set_option maxRecDepth 20000
variable {E : World}
def tyWord (t : Int) : ByteArray := if t = 0 then ⟨#[105, 110, 116]⟩ else if t = 1 then ⟨#[98, 111, 111, 108]⟩ else if t = 2 then ⟨#[97, 114, 114]⟩ else ⟨#[]⟩
theorem strL_of (s : ByteArray) : strL s.data.toList = s := by unfold strL; simp
def nameR : List Int → Bool
 | [] => false
 | c :: rs => letterC c && (rs.all innerC && decide (rs.length + 1 ≤ 16))
theorem letter_inner {c : Int} (h : letterC c = true) : innerC c = true := by unfold innerC; rw [h]; rfl
theorem nmGo_pos (s : ByteArray) : ∀ (n p : Nat), s.size - p ≤ n → 0 < p → p ≤ s.size → nmGo s p = ((runesFrom s p).all innerC && decide ((runesFrom s 0).length ≤ 16)) := by
 intro n
 induction n with
 | zero =>
  intro p h hp hps
  have hne : ¬ s = ⟨#[]⟩ := fun e => by subst e; have : p ≤ 0 := hps; omega
  rw [nmGo, dif_neg (by omega), runesFrom_ge (p := p) (by omega)]
  simp [hne]; omega
 | succ n ih =>
  intro p h hp hps
  by_cases hlt : p < s.size
  ·have hd := (decode_ok s p).1
   have hw : p + (Utf8.decode s p).2 ≤ s.size := by
    have := decodeL_le (s.data.toList.drop p) (by intro e; have := congrArg List.length e; rw [List.length_drop] at this; have h2 : s.data.toList.length = s.size := Array.length_toList; simp only [List.length_nil] at this; omega)
    rw [decodeL_drop, List.length_drop] at this
    have h2 : s.data.toList.length = s.size := Array.length_toList
    omega
   rw [nmGo, dif_pos hlt, runesFrom_lt hlt, List.all_cons]
   have hp0 : decide (p = 0) = false := decide_eq_false (by omega)
   rw [hp0, Bool.false_and, Bool.false_or]
   cases hi : innerC ((Utf8.decode s p).1 : Int) with
   | false => simp
   | true => rw [if_neg (by simp), ih _ (by omega) (by omega) hw]; simp
  ·have hne : ¬ s = ⟨#[]⟩ := fun e => by subst e; have : p ≤ 0 := hps; omega
   rw [nmGo, dif_neg hlt, runesFrom_ge (p := p) hlt]
   simp [hne]; omega
theorem step_le {s : ByteArray} {p : Nat} (hlt : p < s.size) : p + (Utf8.decode s p).2 ≤ s.size := by
 have h2 : s.data.toList.length = s.size := Array.length_toList
 have := decodeL_le (s.data.toList.drop p) (by intro e; have := congrArg List.length e; rw [List.length_drop] at this; simp only [List.length_nil] at this; omega)
 rw [decodeL_drop, List.length_drop] at this
 omega
theorem scanName_R (s : ByteArray) : scanName s = nameR (runesFrom s 0) := by
 unfold scanName
 by_cases hlt : 0 < s.size
 ·have hd := (decode_ok s 0).1
  have hw := step_le hlt
  have hr := runesFrom_lt hlt
  have hl := congrArg List.length hr
  rw [List.length_cons] at hl
  rw [nmGo, dif_pos hlt]
  have h2 : nameR (runesFrom s 0) = (letterC ((Utf8.decode s 0).1 : Int) && ((runesFrom s (0 + (Utf8.decode s 0).2)).all innerC && decide ((runesFrom s (0 + (Utf8.decode s 0).2)).length + 1 ≤ 16))) := by rw [hr]; rfl
  rw [h2]
  cases hc : letterC ((Utf8.decode s 0).1 : Int) with
  | false => simp
  | true =>
   rw [letter_inner hc, if_neg (by simp), nmGo_pos s _ _ (Nat.le_refl _) (by omega) hw, hl]; rfl
 ·rw [nmGo, dif_neg hlt, runesFrom_ge hlt]
  have : s = ⟨#[]⟩ := by
   have h2 : s.data.toList.length = s.size := Array.length_toList
   have h3 : s.data.toList = [] := List.eq_nil_of_length_eq_zero (by omega)
   rw [← strL_of s, h3]; rfl
  simp [this, nameR]
theorem cnt_end (k : Nat) : (decide ((1 : Int) ≤ ((k + 1 : Nat) : Int)) && decide (((k + 1 : Nat) : Int) ≤ 16)) = (([] : List Int).all innerC && decide (k + 1 + ([] : List Int).length ≤ 16)) := by
 rw [decide_eq_true (by omega), Bool.true_and]
 show _ = (true && _)
 rw [Bool.true_and, decide_eq_decide]
 show ((k + 1 : Nat) : Int) ≤ 16 ↔ k + 1 + 0 ≤ 16
 omega
theorem nameFrom_pos (s : ByteArray) : ∀ (n p k : Nat), s.size - p ≤ n → nameFrom s p (k + 1) = ((runesFrom s p).all innerC && decide (k + 1 + (runesFrom s p).length ≤ 16)) := by
 intro n
 induction n with
 | zero =>
  intro p k h
  rw [nameFrom, dif_neg (by omega), runesFrom_ge (by omega)]
  exact cnt_end k
 | succ n ih =>
  intro p k h
  by_cases hlt : p < s.size
  ·have hd := (decode_ok s p).1
   rw [nameFrom, dif_pos hlt, runesFrom_lt hlt, List.all_cons]
   have ho : okRune ((Utf8.decode s p).1 : Int) (k + 1) = innerC ((Utf8.decode s p).1 : Int) := by
    unfold okRune innerC letterC digitC
    have : decide (((k + 1 : Nat) : Int) = 0) = false := decide_eq_false (by omega)
    rw [this]; simp [Bool.or_assoc]
   rw [ho]
   cases hi : innerC ((Utf8.decode s p).1 : Int) with
   | false => simp
   | true => rw [if_pos rfl, ih _ _ (by omega), Bool.true_and, List.length_cons]; congr 2; simp; omega
  ·rw [nameFrom, dif_neg hlt, runesFrom_ge hlt]
   exact cnt_end k
theorem nameB_R (s : ByteArray) : nameB s = nameR (runesFrom s 0) := by
 unfold nameB
 by_cases hlt : 0 < s.size
 ·rw [nameFrom, dif_pos hlt, runesFrom_lt hlt]
  have ho : okRune ((Utf8.decode s 0).1 : Int) 0 = letterC ((Utf8.decode s 0).1 : Int) := by unfold okRune letterC; simp
  rw [ho]
  show _ = (letterC ((Utf8.decode s 0).1 : Int) && _)
  cases hc : letterC ((Utf8.decode s 0).1 : Int) with
  | false => simp
  | true => rw [if_pos rfl, nameFrom_pos s _ _ _ (Nat.le_refl _), Bool.true_and]; congr 2; simp; omega
 ·rw [nameFrom, dif_neg hlt, runesFrom_ge hlt]; rfl
theorem name_eq (s : ByteArray) : nameB s = scanName s := by rw [nameB_R, scanName_R]
structure InstF (f : PFunc) (x : PInst) : Prop where
 op : 0 ≤ x.op ∧ x.op ≤ 26
 len : x.args.length = (takesL x.op).length
 dst : (makesB x.op = false ∧ x.dst = -1) ∨ (makesB x.op = true ∧ x.dst ≠ -1 ∧ hasV f x.dst = true)
 num : isNum x.op = false → x.num = 0
 args : ∀ a ∈ x.args, hasV f a = true
theorem instP_F {f : PFunc} {x : PInst} (h : InstP f x) : InstF f x := by
 obtain ⟨h1, h2, h3, h4⟩ := h
 have hw := wordB_num ⟨h1, h2⟩
 unfold bad2 at h3
 simp only [Bool.or_eq_false_iff, Bool.not_eq_false', decide_eq_true_eq, Bool.and_eq_false_iff, beq_iff_eq] at h3
 obtain ⟨g1, g2, g3, g4⟩ := h3
 refine ⟨⟨h1, h2⟩, by rw [takes_len]; omega, ?_, fun hn=>?_, List.all_eq_true.1 h4⟩
 ·rw [makesB_eq]
  by_cases hd : x.dst = -1
  ·left
   rw [decide_eq_true hd] at g2
   exact ⟨by rw [g2]; rfl, hd⟩
  ·right
   rw [decide_eq_false hd] at g2
   refine ⟨by rw [g2]; rfl, hd, ?_⟩
   rcases g3 with g | g
   ·exact absurd g hd
   ·exact g
 ·rcases g4 with g | g
  ·exact g
  ·rw [hw, hn] at g; cases g
theorem tyWord_spec (t : Int) : AFun prog E 99 [.int .i64 t] (.str (tyWord t)) := by
 refine zn func99 Z (by decide) Z<|zSr<|z7 (Gv.assign (v := .str _) Z)<|z6<|zc<|zSr<|zVzMi Z<|z6<|zi<|zSr<|zVGveqlI Z Z<|zVzAb Z<|z6<|yb Z (fun c1=>?_) (fun c1=>?_)
 ·refine zSr<|z7 (Gv.assign (v := .str _) Z)<|z6<|ze<|zk (x := .str _) Z ?_
  exact congrArg AV.str (by simp_all [tyWord])
 ·refine zSr<|zVGveqlI Z Z<|zVzAb Z<|z6<|yb Z (fun c2=>?_) (fun c2=>?_)
  ·refine zSr<|z7 (Gv.assign (v := .str _) Z)<|z6<|ze<|zk (x := .str _) Z ?_
   exact congrArg AV.str (by simp_all [tyWord])
  ·refine zSr<|zVGveqlI Z Z<|zVzAb Z<|z6<|yb Z (fun c3=>?_) (fun c3=>?_)
   ·refine zSr<|z7 (Gv.assign (v := .str _) Z)<|z6<|ze<|zk (x := .str _) Z ?_
    exact congrArg AV.str (by simp_all [tyWord])
   ·refine zj<|zSr<|z7 (Gv.assign (v := .str _) Z)<|z6<|ze<|zk (x := .str _) Z ?_
    exact congrArg AV.str (by simp_all [tyWord])
end Go.Proofs.YtoicilchhkndmaaGreatDoor
namespace Go.Proofs.YtoicilchhkndmaaGreatDoor
open Go.Proofs.Tryz
section
variable {S : Int → List Int}
end
section
variable {S : Int → List Int} {at_ : Int → Int} {V : List Int} {N : Int → Int}
variable {b m : Int}
end
end Go.Proofs.YtoicilchhkndmaaGreatDoor
namespace Go.Proofs.YtoicilchhkndmaaGreatDoor
open Go.Proofs.Tryz
section
variable {S : Int → List Int} {at_ : Int → Int} {V : List Int} {N : Int → Int} {b m : Int}
end
end Go.Proofs.YtoicilchhkndmaaGreatDoor
namespace Go.Proofs.YtoicilchhkndmaaGreatDoor
open Go.Proofs.Tryz
section
variable {S : Int → List Int} {at_ V : List Int} {preds : Int → List Int} {n : Nat}
end
end Go.Proofs.YtoicilchhkndmaaGreatDoor
namespace Go.Proofs.YtoicilchhkndmaaGreatDoor
open Go.Proofs.Tryz
def gb (l : List Bool) (x : Int) : Bool := (l[x.toNat]?).getD false
structure EOk (E : Int → List Int) (n : Nat) : Prop where
 npos : 0 < n
 rng : ∀ b : Int, 0 ≤ b → b < n → ∀ c ∈ E b, 0 ≤ c ∧ c < n
 len : ∀ b, (E b).length ≤ 2
section
variable {E : Int → List Int} {n : Nat} (hE : EOk E n)
include hE
end
end Go.Proofs.YtoicilchhkndmaaGreatDoor
namespace Go.Proofs.YtoicilchhkndmaaGreatDoor
open Go.Proofs.Tryz
structure Grph (E : Int → List Int) (n : Nat) : Prop extends EOk E n where
 out : ∀ x : Int, ¬ (0 ≤ x ∧ x < n) → E x = []
section
variable {E : Int → List Int} {n : Nat} (hE : Grph E n)
include hE
end
section
variable {E : Int → List Int} {n : Nat} (hE : Grph E n)
include hE
end
section
variable {E : Int → List Int} {n : Nat} (hE : Grph E n)
include hE
end
end Go.Proofs.YtoicilchhkndmaaGreatDoor
namespace Go.Proofs.YtoicilchhkndmaaGreatDoor
open Go.Proofs.Tryz
end Go.Proofs.YtoicilchhkndmaaGreatDoor
namespace Go.Proofs.YtoicilchhkndmaaGreatDoor
open Go.Proofs.Tryz
end Go.Proofs.YtoicilchhkndmaaGreatDoor
namespace Go.Proofs.YtoicilchhkndmaaGreatDoor
open Go.Proofs.Tryz
end Go.Proofs.YtoicilchhkndmaaGreatDoor
namespace Go.Proofs.YtoicilchhkndmaaGreatDoor
open Go.Proofs.Tryz
def okX (a : Int) (out : List Bool) (shut x : Int) : Prop := x ≠ shut ∧ (x = a ∨ gb out x = true)
instance (a : Int) (out : List Bool) (shut x : Int) : Decidable (okX a out shut x) := by unfold okX; infer_instance
end Go.Proofs.YtoicilchhkndmaaGreatDoor
namespace Go.Proofs.YtoicilchhkndmaaGreatDoor
open Go.Proofs.Tryz
noncomputable section
end
end Go.Proofs.YtoicilchhkndmaaGreatDoor
namespace Go.Proofs.YtoicilchhkndmaaGreatDoor
open Go.Proofs.Tryz
abbrev Rng := Int × Int
def is64 (x : Int) : Prop := -9223372036854775808 ≤ x ∧ x ≤ 9223372036854775807
instance (x : Int) : Decidable (is64 x) := by unfold is64; infer_instance
def ok64 (r : Rng) : Prop := is64 r.1 ∧ is64 r.2
def noR : Rng := (1, 0)
def rMade (lo hi : Int) : Rng := if hi < lo then noR else (lo, hi)
def imin (a b : Int) : Int := if b < a then b else a
def imax (a b : Int) : Int := if a < b then b else a
def rJoin (a b : Rng) : Rng := if a.2 < a.1 then rMade b.1 b.2 else if b.2 < b.1 then a else (imin a.1 b.1, imax a.2 b.2)
def op3 (k : Nat) (x y : Int) : Int := if k = 0 then x + y else if k = 1 then x - y else x * y
def fit3 (k : Nat) (x y : Int) : Prop := is64 (op3 k x y)
instance (k : Nat) (x y : Int) : Decidable (fit3 k x y) := by unfold fit3; infer_instance
def rOf (n : Int) : Rng := (n, n)
def cornF (k : Nat) (a b : Rng) : Prop := fit3 k a.1 b.1 ∧ fit3 k a.1 b.2 ∧ fit3 k a.2 b.1 ∧ fit3 k a.2 b.2
instance (k : Nat) (a b : Rng) : Decidable (cornF k a b) := by unfold cornF; infer_instance
end Go.Proofs.YtoicilchhkndmaaGreatDoor
namespace Go.Proofs.YtoicilchhkndmaaGreatDoor
open Go.Proofs.Tryz
def rSub (r s : Rng) : Prop := r.2 < r.1 ∨ (s.1 ≤ r.1 ∧ r.2 ≤ s.2)
end Go.Proofs.YtoicilchhkndmaaGreatDoor
namespace Go.Proofs.YtoicilchhkndmaaGreatDoor
open Go.Proofs.Tryz
end Go.Proofs.YtoicilchhkndmaaGreatDoor
namespace Go.Proofs.YtoicilchhkndmaaGreatDoor
open Go.Proofs.Tryz
end Go.Proofs.YtoicilchhkndmaaGreatDoor
namespace Go.Proofs.YtoicilchhkndmaaGreatDoor
open Go.Proofs.Tryz
def ra (rs : List Rng) (i : Nat) : Rng := (rs[i]?).getD (0, 0)
end Go.Proofs.YtoicilchhkndmaaGreatDoor
namespace Go.Proofs.YtoicilchhkndmaaGreatDoor
open Go.Proofs.Tryz
def lv (l : List Rng) (v : Int) : Rng := (l[v.toNat]?).getD noR
def nrm (r : Rng) : Prop := r.2 < r.1 → r = noR
structure Rules (n : Nat) (rule : List Rng → Int → Rng) (vs : List Int) : Prop where
 mono : ∀ l l' v, l.length = n → l'.length = n → (∀ u : Int, 0 ≤ u → rSub (lv l u) (lv l' u)) → (∀ u : Int, 0 ≤ u → ok64 (lv l u)) → (∀ u : Int, 0 ≤ u → ok64 (lv l' u)) → v ∈ vs → rSub (rule l v) (rule l' v)
 ok : ∀ l v, l.length = n → (∀ u : Int, 0 ≤ u → ok64 (lv l u)) → v ∈ vs → ok64 (rule l v)
 rng : ∀ v ∈ vs, 0 ≤ v ∧ v < n
end Go.Proofs.YtoicilchhkndmaaGreatDoor
namespace Go.Proofs.YtoicilchhkndmaaGreatDoor
open Go.Proofs.Tryz
section
variable {n : Nat} {rule : List Rng → Int → Rng} {widn : Nat → Int → Option Rng} {vs : List Int} (hR : Rules n rule vs) (hw : ∀ i v t, widn i v = some t → ok64 t)
include hR hw
end
end Go.Proofs.YtoicilchhkndmaaGreatDoor
namespace Go.Proofs.YtoicilchhkndmaaGreatDoor
open Go.Proofs.Tryz
end Go.Proofs.YtoicilchhkndmaaGreatDoor
namespace Go.Proofs.YtoicilchhkndmaaGreatDoor
open Go.Proofs.Tryz
end Go.Proofs.YtoicilchhkndmaaGreatDoor
namespace Go.Proofs.YtoicilchhkndmaaGreatDoor
open Go.Proofs.Tryz
end Go.Proofs.YtoicilchhkndmaaGreatDoor
namespace Go.Proofs.YtoicilchhkndmaaGreatDoor
open Go.Proofs.Tryz
def isChk (q : Int) : Prop := 21 ≤ q ∧ q ≤ 23
instance (q : Int) : Decidable (isChk q) := by unfold isChk; infer_instance
end Go.Proofs.YtoicilchhkndmaaGreatDoor
namespace Go.Proofs.YtoicilchhkndmaaGreatDoor
open Go.Proofs.Tryz
end Go.Proofs.YtoicilchhkndmaaGreatDoor
namespace Go.Proofs.YtoicilchhkndmaaGreatDoor
open Go.Proofs.Tryz
section
variable {n : Nat} {rule : List Rng → Int → Rng} {vs : List Int} {phi : Int → Prop} {rank : Int → Nat}
end
section
variable {n : Nat} {rule : List Rng → Int → Rng} {vs : List Int} {phi : Int → Prop} {t : Int → Rng}
end
end Go.Proofs.YtoicilchhkndmaaGreatDoor
namespace Go.Proofs.YtoicilchhkndmaaGreatDoor
open Go.Proofs.Tryz
def hAdd (h : Rng × Bool) (n : Int) (fits : Bool) (e : Int) : Rng × Bool := (rJoin h.1 (rOf (if fits then n else e)), h.2 || !fits)
def h4 (h : Rng × Bool) (a b : Rng) (n : Int → Int → Int) (fit : Int → Int → Bool) (e : Int → Int → Int) : Rng × Bool :=
 hAdd (hAdd (hAdd (hAdd h (n a.1 b.1) (fit a.1 b.1) (e a.1 b.1)) (n a.1 b.2) (fit a.1 b.2) (e a.1 b.2)) (n a.2 b.1) (fit a.2 b.1) (e a.2 b.1)) (n a.2 b.2) (fit a.2 b.2) (e a.2 b.2)
instance (k : Nat) (x y : Int) : Decidable (fit3 k x y) := by unfold fit3 is64; infer_instance
instance (k : Nat) (a b : Rng) : Decidable (cornF k a b) := by unfold cornF; infer_instance
end Go.Proofs.YtoicilchhkndmaaGreatDoor
namespace Go.Proofs.YtoicilchhkndmaaGreatDoor
open Go.Proofs.Tryz
open Go.Proofs
theorem sumB {x y : Int} (hx : is64 x) (hy : is64 y) : (!(decide (x < 0) == decide (y < 0)) || (decide (IntKind.i64.wrap (x + y) < 0) == decide (x < 0))) = decide (fit3 0 x y) := by
 have hw : IntKind.i64.wrap (x + y) = (if x + y < -9223372036854775808 then x + y + 18446744073709551616 else if 9223372036854775807 < x + y then x + y - 18446744073709551616 else x + y) := by
  unfold is64 at hx hy
  unfold IntKind.wrap; simp [IntKind.bits, IntKind.signed]; (repeat' split) <;> omega
 rw [hw, Bool.eq_iff_iff, decide_eq_true_eq]
 show _ ↔ is64 (x + y)
 unfold is64 at *
 simp only [Bool.or_eq_true, Bool.not_eq_true', beq_eq_false_iff_ne, beq_iff_eq, decide_eq_decide, ne_eq]
 (repeat' split) <;> omega
theorem subB {x y : Int} (hx : is64 x) (hy : is64 y) : ((decide (x < 0) == decide (y < 0)) || (decide (IntKind.i64.wrap (x - y) < 0) == decide (x < 0))) = decide (fit3 1 x y) := by
 have hw : IntKind.i64.wrap (x - y) = (if x - y < -9223372036854775808 then x - y + 18446744073709551616 else if 9223372036854775807 < x - y then x - y - 18446744073709551616 else x - y) := by
  unfold is64 at hx hy
  unfold IntKind.wrap; simp [IntKind.bits, IntKind.signed]; (repeat' split) <;> omega
 rw [hw, Bool.eq_iff_iff, decide_eq_true_eq]
 show _ ↔ is64 (x - y)
 unfold is64 at *
 simp only [Bool.or_eq_true, beq_iff_eq, decide_eq_decide]
 (repeat' split) <;> omega
theorem abs_wrap {x : Int} (h : is64 x) : (if x < 0 then IntKind.u64.wrap (0 - IntKind.u64.wrap x) else IntKind.u64.wrap x) = ((x.natAbs : Nat) : Int) := by
 unfold is64 at h
 unfold IntKind.wrap; simp [IntKind.bits, IntKind.signed]; split <;> omega
theorem abs_lt {x : Int} (h : is64 x) : x.natAbs < 18446744073709551616 := by unfold is64 at h; omega
theorem mulB {x y : Int} : (decide (((x.natAbs * y.natAbs / 18446744073709551616 : Nat) : Int) = 0) && decide (((x.natAbs * y.natAbs % 18446744073709551616 : Nat) : Int) ≤ (if (!(decide (x < 0) == decide (y < 0))) = true then 9223372036854775808 else 9223372036854775807))) = decide (fit3 2 x y) := by
 have hm := Int.natAbs_mul x y
 rw [Bool.eq_iff_iff, decide_eq_true_eq (p := fit3 2 x y)]
 show _ ↔ is64 (x * y)
 unfold is64
 rw [← hm]
 have hs : (x < 0 ↔ y < 0) → 0 ≤ x * y := fun h => by
  by_cases hx : x < 0
  ·exact Int.le_of_lt (Int.mul_pos_of_neg_of_neg hx (h.1 hx))
  ·exact Int.mul_nonneg (by omega) (by have := mt h.2 hx; omega)
 have hd : ¬ (x < 0 ↔ y < 0) → x * y ≤ 0 := fun h => by
  by_cases hx : x < 0
  ·have hy : ¬ y < 0 := fun hy => h ⟨fun _ => hy, fun _ => hx⟩
   exact Int.mul_nonpos_of_nonpos_of_nonneg (by omega) (by omega)
  ·have hy : y < 0 := Classical.byContradiction fun hy => h ⟨fun h => absurd h hx, fun h => absurd h hy⟩
   exact Int.mul_nonpos_of_nonneg_of_nonpos (by omega) (by omega)
 generalize x * y = z at *
 simp only [q9, decide_eq_true_eq, Bool.not_eq_true', beq_eq_false_iff_ne, decide_eq_decide, ne_eq]
 by_cases c : (x < 0 ↔ y < 0)
 ·have := hs c
  rw [if_neg (by simp [c])]; omega
 ·have := hd c
  rw [if_pos c]; omega
end Go.Proofs.YtoicilchhkndmaaGreatDoor
namespace Go.Proofs.YtoicilchhkndmaaGreatDoor
open Go.Proofs.Tryz
open Go.Proofs
theorem wrap_s (z : Int) : IntKind.i64.wrap z = (z + 9223372036854775808) % 18446744073709551616 - 9223372036854775808 := by
 unfold IntKind.wrap; simp [IntKind.bits, IntKind.signed]; (try split) <;> omega
end Go.Proofs.YtoicilchhkndmaaGreatDoor
namespace Go.Proofs.YtoicilchhkndmaaGreatDoor
open Go.Proofs.Tryz
structure GS where
 ints : List Int
 bools : List Bool
 arrs : List Int
 arrays : List (List Int)
 blk : Int
 pc : Nat
 en : Int
 val : Int
 tr : Int
 trace : List Int
 st : Nat
 ck : Nat → Nat
 ended : Bool
structure PArg where
 int : Int
 b : Bool
 arr : Int
structure PIn where
 args : List PArg
 arrays : List (List Int)
def vi (l : List Int) (v : Int) : Int := (l[v.toNat]?).getD 0
def ar0 (x : PInst) : Int := (x.args[0]?).getD 0
def ar1 (x : PInst) : Int := (x.args[1]?).getD 0
def ar2 (x : PInst) : Int := (x.args[2]?).getD 0
def stI (s : GS) (d v : Int) : GS := { s with ints := s.ints.set d.toNat v }
def stB (s : GS) (d : Int) (v : Bool) : GS := { s with bools := s.bools.set d.toNat v }
def stA (s : GS) (d v : Int) : GS := { s with arrs := s.arrs.set d.toNat v }
def blkG (f : PFunc) (b : Int) : PBlock := (f.blocks[b.toNat]?).getD ⟨⟨#[]⟩, [], [], ⟨2, 0, 0, 0⟩⟩
def phiAt (p : PPhi) (b : Int) : Int := ((p.from_.zip p.args).find? fun q => decide (q.1 = b)).elim (-1) (·.2)
def assign (s t : GS) (p : PPhi) : GS := stA (stB (stI t p.dst (vi s.ints (phiAt p s.blk))) p.dst (gb s.bools (phiAt p s.blk))) p.dst (vi s.arrs (phiAt p s.blk))
def tyL (f : PFunc) (i : Nat) : Int := ((f.vars[i]?).map (·.ty)).getD 0
theorem vi_get {l : List Int} {v : Int} (h1 : v < l.length) (h0 : 0 ≤ v) : l[v.toNat]? = some (vi l v) := by
 unfold vi; rw [q3 (by omega)]; rfl
theorem vi_64 {l : List Int} {v : Int} (h : ∀ x ∈ l, is64 x) : is64 (vi l v) := by
 unfold vi
 cases e : l[v.toNat]? with
 | none => exact ⟨by decide, by decide⟩
 | some x => exact h x (List.mem_of_getElem? e)
theorem wrap_64 (x : Int) : is64 (IntKind.i64.wrap x) := by
 rw [wrap_s]; unfold is64; omega
theorem has_lt {f : PFunc} {v : Int} (h : hasV f v = true) : v < f.vars.length ∧ 0 ≤ v := by
 unfold hasV at h; simp at h; exact ⟨h.2, h.1⟩
theorem takesN : ∀ j : Nat, j < 27 → (takesL (j : Int)).length = ([0, 1, 2, 2, 2, 2, 2, 2, 2, 2, 1, 2, 1, 2, 3, 1, 0, 1, 2, 1, 1, 2, 2, 2, 1, 2, 2][j]?).getD 0 := by decide
theorem InstF.argc {f : PFunc} {x : PInst} (h : InstF f x) : x.args.length = ([0, 1, 2, 2, 2, 2, 2, 2, 2, 2, 1, 2, 1, 2, 3, 1, 0, 1, 2, 1, 1, 2, 2, 2, 1, 2, 2][x.op.toNat]?).getD 0 := by
 have h1 := h.op
 obtain ⟨j, e⟩ : ∃ j : Nat, x.op = (j : Int) := ⟨x.op.toNat, by omega⟩
 rw [h.len, e, takesN j (by omega), Int.toNat_natCast]
structure RunP (f : PFunc) : Prop where
 pos : 0 < f.blocks.length
 phis : ∀ b ∈ f.blocks, ∀ p ∈ b.phis, PhiP f p
 insts : ∀ b ∈ f.blocks, ∀ x ∈ b.insts, InstF f x ∧ is64 x.num
 term : ∀ b ∈ f.blocks, termOK f b.term = true
theorem blk_get {f : PFunc} {b : Int} (h0 : 0 ≤ b) (h1 : b < f.blocks.length) : f.blocks[b.toNat]? = some (blkG f b) := by
 unfold blkG; rw [q3 (by omega)]; rfl
theorem blk_mem {f : PFunc} {b : Int} (h0 : 0 ≤ b) (h1 : b < f.blocks.length) : blkG f b ∈ f.blocks := List.mem_of_getElem? (blk_get h0 h1)
theorem term_to {f : PFunc} {t : PTerm} (h : termOK f t = true) (hk : ¬ t.kind = 2) : (0 ≤ t.to0 ∧ t.to0 < f.blocks.length) ∧ (¬ t.kind = 0 → t.kind = 1 ∧ (0 ≤ t.to1 ∧ t.to1 < f.blocks.length)) := by
 unfold termOK at h
 split at h
 ·rename_i e
  simp only [q9, hasB, decide_eq_true_eq] at h
  exact ⟨h.1.1, fun g => absurd e g⟩
 ·split at h
  ·rename_i e
   simp only [q9, hasB, decide_eq_true_eq] at h
   exact ⟨h.1.2, fun _ => ⟨e, h.2⟩⟩
  ·simp [hk] at h
end Go.Proofs.YtoicilchhkndmaaGreatDoor
namespace Go.Proofs.YtoicilchhkndmaaGreatDoor
open Go.Proofs.Tryz
structure PS where
 v : List PArg
 rows : List (List Int)
 blk : Int
 pc : Nat
 en : Int
 val : Int
 tr : Int
 trace : List Int
 st : Nat
 ck : List Int
 ended : Bool
def numA (n : Int) : PArg := ⟨n, false, -1⟩
def truA (b : Bool) : PArg := ⟨0, b, -1⟩
def arrA (a : Int) : PArg := ⟨0, false, a⟩
def argv (s : PS) (a : Int) : PArg := (s.v[a.toNat]?).getD ⟨0, false, -1⟩
def rowP (s : PS) (a : Int) : List Int := (s.rows[a.toNat]?).getD []
def hasP (s : PS) (a : Int) : Bool := decide (0 ≤ a ∧ a < s.rows.length)
def placeP (s : PS) (a i : Int) : Bool := hasP s a && decide (0 ≤ i ∧ i < (rowP s a).length)
def passP (s : PS) (op : Int) (a b : PArg) : Bool :=
 if op = 18 then placeP s a.arr b.int
 else if op = 19 then decide (a.arr ≠ -1)
 else if op = 20 then decide (a.int ≠ 0)
 else if op = 24 then decide (0 ≤ a.int ∧ a.int ≤ 64)
 else decide (fit3 (op - 21).toNat a.int b.int)
def endP (s : PS) (e : Int) : PS := { s with en := e, ended := true }
def putP (s : PS) (d : Int) (a : PArg) : PS := if 0 ≤ d then { s with v := s.v.set d.toNat a } else s
def makeP (s : PS) (x : PInst) (a b c : PArg) : PS :=
 if x.op = 0 then putP s x.dst (numA x.num)
 else if x.op = 1 ∨ x.op = 25 ∨ x.op = 26 then putP s x.dst a
 else if x.op = 2 then putP s x.dst (numA (IntKind.i64.wrap (a.int + b.int)))
 else if x.op = 3 then putP s x.dst (numA (IntKind.i64.wrap (a.int - b.int)))
 else if x.op = 4 then putP s x.dst (numA (IntKind.i64.wrap (a.int * b.int)))
 else if x.op = 5 then (if b.int = 0 then endP s 2 else putP s x.dst (numA (IntKind.i64.wrap (a.int.tdiv b.int))))
 else if x.op = 6 then (if b.int = 0 then endP s 2 else putP s x.dst (numA (a.int.tmod b.int)))
 else if x.op = 7 then putP s x.dst (truA (decide (a.int = b.int)))
 else if x.op = 8 then putP s x.dst (truA (decide (a.int < b.int)))
 else if x.op = 9 then putP s x.dst (truA (decide (a.int ≤ b.int)))
 else if x.op = 10 then putP s x.dst (truA (!a.b))
 else if x.op = 11 then putP s x.dst (truA (a.b && b.b))
 else if x.op = 12 then (if hasP s a.arr = true then putP s x.dst (numA (rowP s a.arr).length) else endP s 2)
 else if x.op = 13 then (if placeP s a.arr b.int = true then putP s x.dst (numA (vi (rowP s a.arr) b.int)) else endP s 2)
 else if x.op = 14 then (if placeP s a.arr b.int = true then putP { s with rows := s.rows.set a.arr.toNat ((rowP s a.arr).set b.int.toNat c.int) } x.dst (numA 0) else endP s 2)
 else if x.op = 15 then (if a.int < 0 ∨ 64 < a.int then endP s 2 else if 32 ≤ s.rows.length then endP s 3 else putP { s with rows := s.rows ++ [List.replicate a.int.toNat 0] } x.dst (arrA s.rows.length))
 else if x.op = 16 then putP s x.dst (arrA (-1))
 else (if 4096 ≤ s.trace.length then endP s 3 else { s with trace := s.trace ++ [a.int] })
def bumpP (s : PS) (t : Nat) : PS := { s with ck := s.ck.set t (vi s.ck t + 1) }
def instP' (s : PS) (x : PInst) : PS :=
 if 18 ≤ x.op ∧ x.op ≤ 24 then
  (if passP (bumpP s (x.op - 17).toNat) x.op (argv s (ar0 x)) (argv s (ar1 x)) = true then bumpP s (x.op - 17).toNat
   else endP { bumpP s (x.op - 17).toNat with tr := x.op - 17 } 1)
 else makeP s x (argv s (ar0 x)) (argv s (ar1 x)) (argv s (ar2 x))
def phisP (s : PS) (ps : List PPhi) : PS := { s with v := ps.foldl (fun l p => l.set p.dst.toNat (argv s (phiAt p s.blk))) s.v }
def enterP (f : PFunc) (s : PS) (dst_ : Int) : PS :=
 if (blkG f dst_).phis.all (fun p => decide (0 ≤ phiAt p s.blk)) = true then { phisP s (blkG f dst_).phis with blk := dst_, pc := 0 } else endP { s with blk := dst_, pc := 0 } 2
def termP (f : PFunc) (s : PS) : PS :=
 if (blkG f s.blk).term.kind = 0 then enterP f s (blkG f s.blk).term.to0
 else if (blkG f s.blk).term.kind = 1 then (if (argv s (blkG f s.blk).term.var).b = true then enterP f s (blkG f s.blk).term.to0 else enterP f s (blkG f s.blk).term.to1)
 else endP { s with val := (argv s (blkG f s.blk).term.var).int } 0
def stepP (f : PFunc) (s : PS) : PS :=
 match (blkG f s.blk).insts[s.pc]? with
 | some x => instP' { s with st := s.st + 1, pc := s.pc + 1 } x
 | none => termP f { s with st := s.st + 1 }
def runP (f : PFunc) : Nat → PS → PS
 | 0, s => s
 | k + 1, s => if s.ended = true then s else runP f k (stepP f s)
theorem runP_end (f : PFunc) : ∀ (k : Nat) (s : PS), s.ended = true → runP f k s = s
 | 0, _, _ => rfl
 | k + 1, s, h => by unfold runP; rw [if_pos h]
theorem runP_add (f : PFunc) : ∀ (n k : Nat) (s : PS), runP f (n + k) s = runP f k (runP f n s)
 | 0, k, s => by rw [Nat.zero_add]; rfl
 | n + 1, k, s => by
  rw [Nat.succ_add]
  show (if s.ended = true then s else runP f (n + k) (stepP f s)) = runP f k (if s.ended = true then s else runP f n (stepP f s))
  by_cases h : s.ended = true
  ·rw [if_pos h, if_pos h, runP_end f k s h]
  ·rw [if_neg h, if_neg h, runP_add f n k]
structure Grow (s t : PS) : Prop where
 tr : s.trace <+: t.trace
 st : s.st ≤ t.st
 ck : s.ck.sum ≤ t.ck.sum
theorem Grow.refl (s : PS) : Grow s s := ⟨List.prefix_refl _, Nat.le_refl _, Int.le_refl _⟩
theorem Grow.fin {s t : PS} (h : Grow s t) (e : Int) : Grow s (endP t e) := ⟨h.tr, h.st, h.ck⟩
theorem Grow.ite {s a b : PS} {c : Prop} [Decidable c] (h1 : Grow s a) (h2 : Grow s b) : Grow s (if c then a else b) := by split <;> assumption
theorem st_ite {a b : PS} {k : Nat} {c : Prop} [Decidable c] (h1 : a.st = k) (h2 : b.st = k) : (if c then a else b).st = k := by split <;> assumption
theorem Grow.put {s t : PS} (h : Grow s t) (d : Int) (a : PArg) : Grow s (putP t d a) := by
 unfold putP; split
 ·exact ⟨h.tr, h.st, h.ck⟩
 ·exact h
theorem sum_bump : ∀ (l : List Int) (t : Nat), (l.set t (vi l t + 1)).sum = l.sum + (if t < l.length then 1 else 0)
 | [], t => by simp
 | a :: l, 0 => by show (a + 1) + l.sum = a + l.sum + _; rw [if_pos (by simp)]; omega
 | a :: l, t + 1 => by
  have := sum_bump l t
  show a + (l.set t (vi (a :: l) ((t + 1 : Nat) : Int) + 1)).sum = a + l.sum + _
  rw [show vi (a :: l) ((t + 1 : Nat) : Int) = vi l t by unfold vi; rw [Int.toNat_natCast, Int.toNat_natCast]; rfl, this]
  simp only [List.length_cons, Nat.add_lt_add_iff_right]
  omega
theorem Grow.bump {s t : PS} (h : Grow s t) (k : Nat) : Grow s (bumpP t k) := ⟨h.tr, h.st, by
 have := sum_bump t.ck k
 have h2 := h.ck
 show s.ck.sum ≤ (t.ck.set k (vi t.ck k + 1)).sum
 rw [this]; split <;> omega⟩
theorem Grow.make {s t : PS} (h : Grow s t) (x : PInst) (a b c : PArg) : Grow s (makeP t x a b c) := by
 have hr : ∀ r, Grow s { t with rows := r } := fun r => ⟨h.tr, h.st, h.ck⟩
 unfold makeP
 repeat' with_reducible apply Grow.ite
 all_goals first | exact h.put _ _ | exact h.fin _ | exact (hr _).put _ _ | exact ⟨h.tr.trans (List.prefix_append _ _), h.st, h.ck⟩
theorem Grow.inst {s t : PS} (h : Grow s t) (x : PInst) : Grow s (instP' t x) := by
 unfold instP'
 split
 ·split
  ·exact h.bump _
  ·have := h.bump (x.op - 17).toNat
   exact ⟨this.tr, this.st, this.ck⟩
 ·exact h.make ..
theorem Grow.enter {s t : PS} (h : Grow s t) (f : PFunc) (dst_ : Int) : Grow s (enterP f t dst_) := by
 unfold enterP
 split
 ·exact ⟨h.tr, h.st, h.ck⟩
 ·exact ⟨h.tr, h.st, h.ck⟩
theorem Grow.step {s t : PS} (h : Grow s t) (f : PFunc) : Grow s (stepP f t) := by
 unfold stepP
 split
 ·exact Grow.inst (t := { t with st := t.st + 1, pc := t.pc + 1 }) ⟨h.tr, Nat.le_succ_of_le h.st, h.ck⟩ _
 ·have h2 : Grow s { t with st := t.st + 1 } := ⟨h.tr, Nat.le_succ_of_le h.st, h.ck⟩
  unfold termP
  split
  ·exact h2.enter ..
  ·split
   ·split
    ·exact h2.enter ..
    ·exact h2.enter ..
   ·exact ⟨h2.tr, h2.st, h2.ck⟩
theorem run_grow (f : PFunc) : ∀ (n : Nat) (s t : PS), Grow s t → Grow s (runP f n t)
 | 0, _, _, h => h
 | n + 1, s, t, h => by
  unfold runP; split
  ·exact h
  ·exact run_grow f n s _ (h.step f)
theorem make_st (s : PS) (x : PInst) (a b c : PArg) : (makeP s x a b c).st = s.st := by
 unfold makeP putP endP
 repeat' with_reducible apply st_ite
 all_goals rfl
theorem stepP_st (f : PFunc) (s : PS) : (stepP f s).st = s.st + 1 := by
 unfold stepP
 split
 ·unfold instP'
  repeat' split
  ·rfl
  ·rfl
  ·rw [make_st]
 ·unfold termP enterP endP
  repeat' split
  all_goals rfl
theorem run_st (f : PFunc) : ∀ (n : Nat) (s : PS), (runP f n s).ended = true ∨ (runP f n s).st = s.st + n
 | 0, _ => .inr rfl
 | n + 1, s => by
  unfold runP
  by_cases h : s.ended = true
  ·rw [if_pos h]; exact .inl h
  ·rw [if_neg h]
   rcases run_st f n (stepP f s) with h1 | h1
   ·exact .inl h1
   ·right; rw [h1, stepP_st]; omega
end Go.Proofs.YtoicilchhkndmaaGreatDoor
namespace Go.Proofs.YtoicilchhkndmaaGreatDoor
open Go.Proofs.Tryz
def cI (l : List Int) : List AV := l.map (AV.int .i64)
theorem cI_len (l : List Int) : (cI l).length = l.length := by simp [cI]
theorem cI_flat (l : List Int) : (l.map fun x => [AV.int .i64 x]).flatten = cI l := by
 induction l with
 | nil => rfl
 | cons x l ih => simp only [List.map_cons, List.flatten_cons, ih]; rfl
theorem cI_cell (l : List Int) : (cI l).all AV.cell = true := by
 unfold cI; rw [List.all_map]; exact List.all_eq_true.2 fun _ _ => rfl
theorem cI_app (l m : List Int) : cI l ++ cI m = cI (l ++ m) := by simp [cI]
theorem cI_set (l : List Int) (j : Nat) (v : Int) : (cI l).set j (.int .i64 v) = cI (l.set j v) := by unfold cI; rw [List.map_set]
theorem cI_drop {l : List Int} {j : Nat} {v : Int} (h : l[j]? = some v) : (cI l).drop j = .int .i64 v :: (cI l).drop (j + 1) := by
 obtain ⟨hj, e⟩ := List.getElem?_eq_some_iff.1 h
 rw [List.drop_eq_getElem_cons (by rw [cI_len]; exact hj)]
 unfold cI
 rw [List.getElem_map, e]
theorem cI_rep (n : Nat) (v : Int) : List.replicate n (AV.int .i64 v) = cI (List.replicate n v) := by simp [cI]
section
variable {E : World} {P : Program} {ops : Array Oper} {K : AEnv → OL → Prop} {env : AEnv} {O O' O'' : OL} {rest : List Oper} {n : Nat}
variable {d ty : Nat} {pos : String} {af : Array Edge} {x y z : Operand} {t u e : TypeId}
theorem Gv.idxI {i n j : Nat} {a : Int} {T : TypeId} {cs : List AV} (ht : P.underlying t = some (.slice e)) (hs : ∀ w, (sizeOf e).run P w = .ok 1 w) (hx : aev env x = .own i n) (hy : aev env y = .int .i64 a) (hi : a = (j : Int)) (hO : Has O i (.grow 1 T cs)) (hn : cs.length = n) (hj : j < n) :
  Gv P env O (Oper.mk (some d) (.indexAddr t x y) ty pos af none) (.po i j) :=
 Gv.idxOL ht hs hx hy hi hO (fun e => by rw [e] at hn; simp at hn; omega) hj (Nat.mul_one j)
theorem Gv.loadI {i j : Nat} {T : TypeId} {l : List Int} {v : Int} (ha : ∀ w, (isAgg t).run P w = .ok false w) (hx : aev env x = .po i j) (hO : Has O i (.grow 1 T (cI l))) (hv : l[j]? = some v) :
  Gv P env O (Oper.mk (some d) (.load t x) ty pos af none) (.int .i64 v) := Gv.load1G ha hx hO (cI_drop hv)
theorem Put.cast {i k : Nat} {T : TypeId} {o : AObj} {cs ds : List AV} (h : Put O i o (.grow k T cs) O') (e : cs = ds) : Put O i o (.grow k T ds) O' := e ▸ h
theorem AOps.storeI {i j : Nat} {T : TypeId} {l : List Int} {v : Int} (hs : ∀ w, (sizeOf t).run P w = .ok 1 w) (hx : aev env x = .po i j) (hy : aev env y = .int .i64 v) (hO : Put O i (.grow 1 T (cI l)) (.grow 1 T (cI (l.set j v))) O') (hb : j < l.length)
  (kk : AOps P E ops K rest env O') : AOps P E ops K (Oper.mk none (.store t x y) ty pos af none :: rest) env O :=
 AOps.storeG1 (cs := cI l) hs hx hy rfl rfl rfl (hO.cast (cI_set l j v).symm) (by rw [cI_len]; exact hb) kk
theorem AOps.makeI {i : TypeInfo} {zv : Value} {m : Nat} {k1 k2 : IntKind} {l l' : Int} (ht : P.underlying t = some (.slice e)) (hi : P.info? e = some i) (hz : i.zero = some zv) (hzc : zv.cells = #[.int .i64 0]) (hk : i.size = 1) (hx : aev env x = .int k1 l) (hy : aev env y = .int k2 l')
  (hl : l = (m : Int)) (hl' : l' = (m : Int)) (hb : (i.bytes : Int) * (m : Int) ≤ 281474976710656) (hm : m ≤ 281474976710656) (kk : ∀ j, AOps P E ops K rest (aupd env d (.own j m)) ((j, .grow 1 e (cI (List.replicate m 0))) :: O)) :
  AOps P E ops K (Oper.mk (some d) (.makeSlice t x y) ty pos af none :: rest) env O :=
 AOps.make1 ht hi hz hzc hk hx hy hl hl' hb hm rfl fun j => by rw [show lit (.int .i64 0) = AV.int .i64 0 from rfl, cI_rep]; exact kk j
end
structure Enc (α : Type) where
 k : Nat
 val : α → List Value
 pos : 0 < k
 len : ∀ x, (val x).length = k
 one : ∀ x, ∀ u ∈ val x, u.oneCell' = true
variable {α : Type}
def Enc.vs (c : Enc α) (l : List α) : List Value := l.flatMap c.val
def Enc.row (c : Enc α) (x : α) : List AV := (c.val x).map lit
def Enc.av (c : Enc α) (l : List α) : List AV := l.flatMap c.row
theorem Enc.vs_len (c : Enc α) (l : List α) : (c.vs l).length = l.length * c.k := by
 unfold Enc.vs
 induction l with
 | nil => simp
 | cons x l ih => rw [List.flatMap_cons, q8, ih, c.len, List.length_cons, Nat.add_mul]; omega
theorem Enc.av_eq (c : Enc α) (l : List α) : c.av l = (c.vs l).map lit := by
 unfold Enc.av Enc.vs
 induction l with
 | nil => rfl
 | cons x l ih => rw [List.flatMap_cons, List.flatMap_cons, List.map_append, ih]; rfl
theorem Enc.av_len (c : Enc α) (l : List α) : (c.av l).length = l.length * c.k := by rw [c.av_eq, List.length_map, c.vs_len]
theorem Enc.av_app (c : Enc α) (l m : List α) : c.av l ++ c.av m = c.av (l ++ m) := by unfold Enc.av; rw [List.flatMap_append]
theorem Enc.av_push (c : Enc α) (l : List α) (x : α) : c.av l ++ c.row x = c.av (l ++ [x]) := by rw [← c.av_app]; unfold Enc.av; simp
section
variable {E : World} {P : Program} {ops : Array Oper} {K : AEnv → OL → Prop} {env : AEnv} {O O' O'' : OL} {rest : List Oper} {n : Nat}
variable {d ty : Nat} {pos : String} {af : Array Edge} {x y z : Operand} {t u e T : TypeId}
end
end Go.Proofs.YtoicilchhkndmaaGreatDoor
namespace Go.Proofs.YtoicilchhkndmaaGreatDoor
open Go.Proofs.Tryz
section
variable {E : World} {P : Program} {ops : Array Oper} {K : AEnv → OL → Prop} {env : AEnv} {O O' O'' : OL} {rest : List Oper} {n : Nat}
variable {d ty : Nat} {pos : String} {af : Array Edge} {x y z : Operand} {t u e : TypeId}
end
end Go.Proofs.YtoicilchhkndmaaGreatDoor
namespace Go.Proofs.YtoicilchhkndmaaGreatDoor
open Go.Proofs.Tryz
open Go.Sort (Holds putRow putCells onCells)
end Go.Proofs.YtoicilchhkndmaaGreatDoor
namespace Go.Proofs.YtoicilchhkndmaaGreatDoor
open Go.Proofs.Tryz
variable {α : Type}
section
variable {E : World} {P : Program} {ops : Array Oper} {K : AEnv → OL → Prop} {env : AEnv} {O O' O'' : OL} {rest : List Oper} {n : Nat}
variable {d ty : Nat} {pos : String} {af : Array Edge} {x y z : Operand} {t u e T : TypeId}
end
end Go.Proofs.YtoicilchhkndmaaGreatDoor
namespace Go.Proofs.YtoicilchhkndmaaGreatDoor
open Go.Proofs.Tryz
variable {α : Type}
def mg (k : Int) : List (Int × List α) → List α
 | [] => []
 | (k', r) :: es => if k = k' then r else mg k es
def ms (k : Int) (r : List α) : List (Int × List α) → List (Int × List α)
 | [] => [(k, r)]
 | (k', r') :: es => if k = k' then (k, r) :: es else (k', r') :: ms k r es
def kv (k : Int) : Value := .int .i64 k
section
variable {E : World} {P : Program} {ops : Array Oper} {K : AEnv → OL → Prop} {env : AEnv} {O O' O'' : OL} {rest : List Oper} {n : Nat}
variable {d ty : Nat} {pos : String} {af : Array Edge} {x y z : Operand} {t u e T kt : TypeId} {b : Nat}
end
end Go.Proofs.YtoicilchhkndmaaGreatDoor
namespace Go.Proofs.YtoicilchhkndmaaGreatDoor
open Go.Proofs.Tryz
open Go.Proofs
section
variable {E : World} {P : Program} {ops : Array Oper} {K : AEnv → OL → Prop} {env : AEnv} {O O' O'' : OL} {rest : List Oper} {n : Nat}
variable {d ty : Nat} {pos : String} {af : Array Edge} {x y z : Operand} {t u e T : TypeId}
end
end Go.Proofs.YtoicilchhkndmaaGreatDoor
namespace Go.Proofs.YtoicilchhkndmaaGreatDoor
open Go.Proofs.Tryz
open Go.Proofs
def eA : Enc PArg := ⟨3, fun p => [.int .i64 p.int, .bool p.b, .int .i64 p.arr], by decide, fun _ => rfl, fun x u hu => by simp at hu; rcases hu with rfl | rfl | rfl <;> rfl⟩
def encA (a : PArg) : List AV := [.int .i64 a.int, .bool a.b, .int .i64 a.arr]
def aC (l : List PArg) : List AV := eA.av l
theorem aC_len (l : List PArg) : (aC l).length = l.length * 3 := eA.av_len l
theorem aC_push (l : List PArg) (r : PArg) : aC l ++ encA r = aC (l ++ [r]) := eA.av_push l r
theorem aC_cons (r : PArg) (l : List PArg) : aC (r :: l) = .int .i64 r.int :: .bool r.b :: .int .i64 r.arr :: aC l := rfl
theorem aC_drop : ∀ (l : List PArg) (j : Nat), (aC l).drop (j * 3) = aC (l.drop j)
 | l, 0 => by simp
 | [], j + 1 => by simp [aC, Enc.av]
 | r :: l, j + 1 => by
  rw [show (j + 1) * 3 = j * 3 + 1 + 1 + 1 by omega, aC_cons, List.drop_succ_cons, List.drop_succ_cons, List.drop_succ_cons, aC_drop l j, List.drop_succ_cons]
theorem aC_get {l : List PArg} {j : Nat} {r : PArg} (h : l[j]? = some r) : (aC l).drop (j * 3) = .int .i64 r.int :: .bool r.b :: .int .i64 r.arr :: aC (l.drop (j + 1)) := by
 obtain ⟨hj, e⟩ := List.getElem?_eq_some_iff.1 h
 rw [aC_drop, List.drop_eq_getElem_cons hj, e, aC_cons]
theorem aC_take : ∀ (l : List PArg) (j : Nat), (aC l).take (j * 3) = aC (l.take j)
 | l, 0 => by simp [aC, Enc.av]
 | [], j + 1 => by simp [aC, Enc.av]
 | r :: l, j + 1 => by
  rw [show (j + 1) * 3 = j * 3 + 1 + 1 + 1 by omega, aC_cons, List.take_succ_cons, List.take_succ_cons, List.take_succ_cons, aC_take l j, List.take_succ_cons, aC_cons]
theorem aC_set {l : List PArg} {j : Nat} (h : j < l.length) (r : PArg) : (aC l).take (j * 3) ++ encA r ++ (aC l).drop (j * 3 + 3) = aC (l.set j r) := by
 rw [show j * 3 + 3 = (j + 1) * 3 by omega, aC_take, aC_drop, aC_push, List.set_eq_take_append_cons_drop, if_pos h]
 unfold aC
 rw [eA.av_app]; simp
theorem aC_ne {l : List PArg} {j : Nat} (h : j < l.length) : aC l ≠ [] := fun e => by have := aC_len l; rw [e] at this; simp at this; omega
theorem aC_flat (l : List PArg) : (l.map encA).flatten = aC l := by unfold aC Enc.av; rw [List.flatMap]; rfl
section
variable {E : World} {P : Program} {ops : Array Oper} {K : AEnv → OL → Prop} {env : AEnv} {O O' O'' : OL} {rest : List Oper} {n : Nat}
variable {d ty : Nat} {pos : String} {af : Array Edge} {x y z : Operand} {t u e T : TypeId}
theorem Gv.idxA3 {i n j : Nat} {a : Int} {T : TypeId} {l : List PArg} (ht : P.underlying t = some (.slice e)) (hs : ∀ w, (sizeOf e).run P w = .ok 3 w) (hx : aev env x = .own i n) (hy : aev env y = .int .i64 a) (hi : a = (j : Int)) (hO : Has O i (.grow 3 T (aC l))) (hn : l.length = n) (hj : j < n) :
  Gv P env O (Oper.mk (some d) (.indexAddr t x y) ty pos af none) (.po i (j * 3)) := Gv.idxO ht hs hx hy hi hO (aC_ne (j := j) (by omega)) hj
theorem Gv.loadA3 {i j : Nat} {T : TypeId} {l : List PArg} {r : PArg} (ha : ∀ w, (isAgg t).run P w = .ok true w) (hs : ∀ w, (sizeOf t).run P w = .ok 3 w) (hx : aev env x = .po i (j * 3)) (hO : Has O i (.grow 3 T (aC l))) (hv : l[j]? = some r) :
  Gv P env O (Oper.mk (some d) (.load t x) ty pos af none) (.agg (encA r)) := by
 have hj := (List.getElem?_eq_some_iff.1 hv).1
 exact Gv.loadAG ha hs hx hO (aC_ne hj) (by rw [aC_len]; omega) (by rw [aC_get hv]; rfl)
theorem Gv.loadA30 {i j : Nat} {T : TypeId} {l : List PArg} {r : PArg} (ha : ∀ w, (isAgg t).run P w = .ok false w) (hx : aev env x = .po i (j * 3 + 0)) (hO : Has O i (.grow 3 T (aC l))) (hv : l[j]? = some r) :
  Gv P env O (Oper.mk (some d) (.load t x) ty pos af none) (.int .i64 r.int) := Gv.load1G ha hx hO (aC_get hv)
theorem Gv.loadA31 {i j : Nat} {T : TypeId} {l : List PArg} {r : PArg} (ha : ∀ w, (isAgg t).run P w = .ok false w) (hx : aev env x = .po i (j * 3 + 1)) (hO : Has O i (.grow 3 T (aC l))) (hv : l[j]? = some r) :
  Gv P env O (Oper.mk (some d) (.load t x) ty pos af none) (.bool r.b) := Gv.load1G (cs := aC l) (tl := .int .i64 r.arr :: aC (l.drop (j + 1))) ha hx hO (by rw [← List.drop_drop, aC_get hv]; rfl)
theorem AOps.storeA3 {i j : Nat} {T : TypeId} {l : List PArg} {r : PArg} (hs : ∀ w, (sizeOf t).run P w = .ok 3 w) (hx : aev env x = .po i (j * 3)) (hy : aev env y = .agg (encA r)) (hO : Put O i (.grow 3 T (aC l)) (.grow 3 T (aC (l.set j r))) O') (hb : j < l.length)
  (kk : AOps P E ops K rest env O') : AOps P E ops K (Oper.mk none (.store t x y) ty pos af none :: rest) env O :=
 AOps.storeG hs hx hy rfl rfl rfl rfl hO (by rw [aC_len]; omega) (by decide) (aC_set hb r) kk
theorem GStep.knowA3 {t i m : Nat} {T : TypeId} {l : List PArg} (hv : env t = .own i m) (hO : Pick O i (.grow 3 T (aC l)) O') (hm : l.length = m) : GStep E env O (aupd env t (.fro 3 (l.map encA))) O' :=
 GStep.know hv (rows := l.map encA) (by rw [aC_flat]; exact hO) (fun r hr => by obtain ⟨_, _, rfl⟩ := List.mem_map.1 hr; rfl) (by decide) (by rw [List.length_map]; exact hm)
end
set_option linter.defProp false
def yl := @afin.c1t
def yr := @RepL.fld
def yu := @GStep.knowP
def yx := @Dec.at
end Go.Proofs.YtoicilchhkndmaaGreatDoor
