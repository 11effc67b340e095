/- The table of what is nearest above, as a list: rounds till nothing changes. No conditions. -/
import Derived.Test.YtiojekbkamegdaaGreatDoorLe
import Derived.ProofKit
import Derived.OpenShut
import Derived.Deep.Matrix
import Derived.Lib.LaidU8
import Derived.Lib.LaidTab
import Derived.MapKept
import Derived.WideMake
import Derived.Laws.Cover4
import Derived.Test.YtiojekbkamegdaaGreatDoorLd
import Derived.WideLaws
import Derived.Lib.AppendZeros
import Derived.Lib.Builder
import Derived.Lib.AppendStr
import Derived.Lib.UnsafeStr
import Derived.Laws.Externs
import Derived.Lib.MapLaws
import Derived.Test.YtiojekbkamegdaaGreatDoorLa
set_option linter.unusedVariables false
set_option linter.unusedSimpArgs false
set_option linter.unusedSectionVars false
namespace Go.Proofs.YtiojekbkamegdaaGreatDoor
open Go.Proofs.Tryz
open Go.Proofs Go.Lib Go.Shelf Go.RowKit
theorem pl26 : Places prog 26 #[(0, 1), (1, 1), (2, 1)] [.raw (.slice none 0 0), .raw (.slice none 0 0), .raw (.slice none 0 0)] := ⟨_, _, jh, Yj, fun w => by kernel_rfl, rfl⟩
theorem pl58 : Places prog 58 #[(0, 1), (1, 1), (2, 1), (3, 4)] [.str ⟨#[]⟩, .raw (.slice none 0 0), .raw (.slice none 0 0), .int .i64 0, .int .i64 0, .int .i64 0, .int .i64 0] := ⟨_, _, je, Zd, fun w => by kernel_rfl, rfl⟩
theorem pl81 : Places prog 81 #[(0, 1), (1, 1), (2, 1)] [.int .i64 0, .raw (.slice none 0 0), .raw (.slice none 0 0)] := ⟨_, _, js, Zk, fun w => by kernel_rfl, rfl⟩
theorem ps51_1 : PlacesS prog 51 81 1 3 [.int .i64 0, .raw (.slice none 0 0), .raw (.slice none 0 0)] := ⟨_, jx, Z0, Zk, by decide, by decide, by kernel_rfl⟩
theorem ps52_1 : PlacesS prog 52 61 1 4 [.int .i64 0, .int .i64 0, .raw (.slice none 0 0), .int .i64 0] := ⟨_, jv, Z2, Zy, by decide, by decide, by kernel_rfl⟩
theorem ps24_1 : PlacesS prog 24 58 1 7 [.str ⟨#[]⟩, .raw (.slice none 0 0), .raw (.slice none 0 0), .int .i64 0, .int .i64 0, .int .i64 0, .int .i64 0] := ⟨_, jl, jw, Zd, by decide, by decide, by kernel_rfl⟩
set_option maxRecDepth 20000
variable {E : World}
def smallBlk (b : PBlock) : Prop := b.name.size ≤ 1000 ∧ b.phis.length ≤ 1000 ∧ b.insts.length ≤ 1000 ∧ (∀ p ∈ b.phis, p.args.length ≤ 1000 ∧ p.from_.length ≤ 1000) ∧ ∀ x ∈ b.insts, x.args.length ≤ 1000
def small (f : PFunc) : Prop := f.vars.length ≤ 1000 ∧ f.params.length ≤ 1000 ∧ f.blocks.length ≤ 1000 ∧ (∀ v ∈ f.vars, v.name.size ≤ 1000) ∧ ∀ b ∈ f.blocks, smallBlk b
theorem small.ok {f : PFunc} (h : small f) : okFunc f := by
 obtain ⟨h1, h2, h3, h4, h5⟩ := h
 refine ⟨by unfold okL; omega, by unfold okL; omega, by unfold okL; omega, fun b hb => ?_⟩
 obtain ⟨g1, g2, g3, g4, g5⟩ := h5 b hb
 exact ⟨by unfold okL; omega, by unfold okL; omega, fun p hp => ⟨by have := g4 p hp; unfold okL; omega, by have := g4 p hp; unfold okL; omega⟩, fun x hx => by have := g5 x hx; unfold okL; omega⟩
theorem small.names {f : PFunc} (h : small f) : okNames f := ⟨fun v hv => by have := h.2.2.2.1 v hv; omega, fun b hb => by have := (h.2.2.2.2 b hb).1; omega⟩
theorem all_cell {α : Type} {enc : α → List AV} (h : ∀ x, (enc x).all AV.cell = true) (xs : List α) : (xs.map enc).flatten.all AV.cell = true := by
 induction xs with
 | nil => rfl
 | cons x xs ih => simp only [List.map_cons, List.flatten_cons, List.all_append, h, ih, Bool.and_self]
theorem cloneI_own (xs : List Int) (hl : xs.length ≤ 1000) : ACall prog E 93 [.fro 1 (xs.map encI)] [] (fun x O' => ∃ i : Nat, x = .own i xs.length ∧ Left O' [(i, .grow 1 3 (xs.map encI).flatten)] ∧ True) := by
 refine zp func93 Z (by decide) Z<|zSr<|z8 (zAr Z)<|z2<|zc<|zSr<|zVzMf Z<|AOps.isNil j6 Z Z (fun hnil=>?_) ?_
 ·have hx : xs = [] := by simpa using hnil
  subst hx
  refine z2<|yq Z Z<|zSr<|z8 (zAr Z)<|z2<|zj ?_
  repeat (first | refine aseqQ_ret ?_ | refine ablockQ_ret ?_)
  refine adopt_fin (s := 2) (k := 1) (T := 3) Z (fun i=>?_)
  refine zk (x := .own _ _) Z ?_
  exact ⟨i, rfl, .refl _, trivial⟩
 ·refine z2<|yj Z Z<|zf<|zSr<|yh (k := 1) j6 Zr<|fun i5 => zVzMf Z<|ym (k := 1) j6 Zr Z Z Z Z Z (fun _ => .head) (by simp) (by decide) (all_cell (fun _ => Z) xs) (by show (_ + _) * 8 ≤ _; simp <;> omega) (by simp <;> omega)<|fun i7 => z8 (zAo Z)<|z2<|zj<|zk (x := .own _ _) Z ?_
  exact ⟨i7, (by simp), ⟨_, .refl _, rfl⟩, trivial⟩
theorem cloneV_own (xs : List PVar) (hl : xs.length ≤ 1000) : ACall prog E 92 [.fro 2 (xs.map encVar)] [] (fun x O' => ∃ i : Nat, x = .own i xs.length ∧ Left O' [(i, .grow 2 79 (xs.map encVar).flatten)] ∧ True) := by
 refine zp func92 Z (by decide) Z<|zSr<|z8 (zAr Z)<|z2<|zc<|zSr<|zVzMf Z<|AOps.isNil Z4 Z Z (fun hnil=>?_) ?_
 ·have hx : xs = [] := by simpa using hnil
  subst hx
  refine z2<|yq Z Z<|zSr<|z8 (zAr Z)<|z2<|zj ?_
  repeat (first | refine aseqQ_ret ?_ | refine ablockQ_ret ?_)
  refine adopt_fin (s := 2) (k := 2) (T := 79) Z (fun i=>?_)
  refine zk (x := .own _ _) Z ?_
  exact ⟨i, rfl, .refl _, trivial⟩
 ·refine z2<|yj Z Z<|zf<|zSr<|yh (k := 2) Z4 type79<|fun i5 => zVzMf Z<|ym (k := 2) Z4 type79 Z Z Z Z Z (fun _ => .head) (by simp) (by decide) (all_cell (fun _ => Z) xs) (by show (_ + _) * 24 ≤ _; simp <;> omega) (by simp <;> omega)<|fun i7 => z8 (zAo Z)<|z2<|zj<|zk (x := .own _ _) Z ?_
  exact ⟨i7, (by simp), ⟨_, .refl _, rfl⟩, trivial⟩
theorem cloneI_spec (xs : List Int) (hl : xs.length ≤ 1000) : AFun prog E 93 [.fro 1 (xs.map encI)] (.fro 1 (xs.map encI)) := (cloneI_own xs hl).frozen (by simp [encI]) (by decide) (by simp)
theorem cloneV_spec (xs : List PVar) (hl : xs.length ≤ 1000) : AFun prog E 92 [.fro 2 (xs.map encVar)] (.fro 2 (xs.map encVar)) := (cloneV_own xs hl).frozen (by simp [encVar]) (by decide) (by simp)
end Go.Proofs.YtiojekbkamegdaaGreatDoor
namespace Go.Proofs.YtiojekbkamegdaaGreatDoor
open Go.Proofs.Tryz
open Go.Proofs Go.Lib Go.Shelf Go.RowKit
set_option maxRecDepth 20000
variable {E : World}
end Go.Proofs.YtiojekbkamegdaaGreatDoor
namespace Go.Proofs.YtiojekbkamegdaaGreatDoor
open Go.Proofs.Tryz
open Go.Proofs Go.Lib Go.Shelf Go.RowKit
set_option maxRecDepth 20000
variable {E : World}
def wV (l : List PVar) : Nat := (l.map fun v => v.name.size).sum
def wP (l : List PPhi) : Nat := (l.map fun p => p.args.length + p.from_.length).sum
def wX (l : List PInst) : Nat := (l.map fun x => x.args.length).sum
def wB (b : PBlock) : Nat := b.name.size + 10 * (b.phis.length + b.insts.length) + wP b.phis + wX b.insts
def wBs (l : List PBlock) : Nat := (l.map wB).sum
theorem wV_succ {l : List PVar} {k : Nat} (h : k < l.length) : wV (l.take (k + 1)) = wV (l.take k) + l[k].name.size := by
 unfold wV; rw [qr h, w2, List.sum_append]; simp only [List.map_cons, List.map_nil, List.sum_cons, List.sum_nil, Nat.add_zero]
theorem wP_succ {l : List PPhi} {k : Nat} (h : k < l.length) : wP (l.take (k + 1)) = wP (l.take k) + (l[k].args.length + l[k].from_.length) := by
 unfold wP; rw [qr h, w2, List.sum_append]; simp only [List.map_cons, List.map_nil, List.sum_cons, List.sum_nil, Nat.add_zero]
theorem wX_succ {l : List PInst} {k : Nat} (h : k < l.length) : wX (l.take (k + 1)) = wX (l.take k) + l[k].args.length := by
 unfold wX; rw [qr h, w2, List.sum_append]; simp only [List.map_cons, List.map_nil, List.sum_cons, List.sum_nil, Nat.add_zero]
theorem wBs_succ {l : List PBlock} {k : Nat} (h : k < l.length) : wBs (l.take (k + 1)) = wBs (l.take k) + wB l[k] := by
 unfold wBs; rw [qr h, w2, List.sum_append]; simp only [List.map_cons, List.map_nil, List.sum_cons, List.sum_nil, Nat.add_zero]
def littleB (b : PBlock) : Prop := b.name.size ≤ 400 ∧ b.phis.length ≤ 400 ∧ b.insts.length ≤ 400 ∧ (∀ p ∈ b.phis, p.args.length ≤ 400 ∧ p.from_.length ≤ 400) ∧ ∀ x ∈ b.insts, x.args.length ≤ 400
def little (f : PFunc) : Prop := f.vars.length ≤ 100 ∧ f.blocks.length ≤ 40 ∧ f.params.length ≤ 20 ∧ (∀ v ∈ f.vars, v.name.size ≤ 400) ∧ (∀ b ∈ f.blocks, littleB b) ∧ (f.blocks ≠ [] → wV f.vars + wBs f.blocks ≤ 4000)
theorem little.small {f : PFunc} (h : little f) : small f := by
 obtain ⟨h1, h2, h3, h4, h5, _⟩ := h
 refine ⟨by omega, by omega, by omega, fun v hv => by have := h4 v hv; omega, fun b hb => ?_⟩
 obtain ⟨g1, g2, g3, g4, g5⟩ := h5 b hb
 exact ⟨by omega, by omega, by omega, fun p hp => by have := g4 p hp; omega, fun x hx => by have := g5 x hx; omega⟩
def wL {α : Type} (l : List α) : Prop := l.length ≤ 9223372036854775807
def wPhi (p : PPhi) : Prop := wL p.args ∧ wL p.from_
def wBlk (b : PBlock) : Prop := wL b.phis ∧ wL b.insts ∧ (∀ p ∈ b.phis, wPhi p) ∧ (∀ x ∈ b.insts, wL x.args)
def wFunc (f : PFunc) : Prop := wL f.vars ∧ wL f.params ∧ wL f.blocks ∧ ∀ b ∈ f.blocks, wBlk b
theorem wL.lt {α : Type} {l : List α} (h : wL l) : l.length ≤ 9223372036854775807 := h
def few1 (f : PFunc) : Bool := decide ((100 : Int) < f.vars.length) || (decide ((40 : Int) < f.blocks.length) || decide ((20 : Int) < f.params.length))
def few2 (b : PBlock) : Bool := decide ((400 : Int) < b.name.size) || (decide ((400 : Int) < b.phis.length) || decide ((400 : Int) < b.insts.length))
end Go.Proofs.YtiojekbkamegdaaGreatDoor
namespace Go.Proofs.YtiojekbkamegdaaGreatDoor
open Go.Proofs.Tryz
open Go.Proofs Go.Lib Go.Shelf Go.RowKit
set_option maxRecDepth 20000
variable {E : World}
end Go.Proofs.YtiojekbkamegdaaGreatDoor
namespace Go.Proofs.YtiojekbkamegdaaGreatDoor
open Go.Proofs.Tryz
open Go.Proofs Go.Lib Go.Shelf Go.RowKit
set_option maxRecDepth 20000
variable {E : World}
theorem rows_27 : ∀ r ∈ kindT, r.1 ≠ ⟨#[]⟩ := by decide
theorem word_ne {op : Int} (h : 0 ≤ op ∧ op ≤ 26) : (kRow op).1 ≠ ⟨#[]⟩ := by
 have hm : kRow op ∈ kindT := by
  unfold kRow
  rw [if_pos h.1, qq (show _ < 27 by omega)]
  exact qu _
 exact rows_27 _ hm
theorem word_num : ∀ j : Nat, j < 27 → isNum (j : Int) = (decide ((kRow (j : Int)).1 = ⟨#[99, 111, 110, 115, 116]⟩) || decide ((kRow (j : Int)).1 = ⟨#[112, 105]⟩)) := by decide
theorem wordB_num {x : PInst} (h : 0 ≤ x.op ∧ x.op ≤ 26) : wordB x = isNum x.op := by
 have := word_num x.op.toNat (by omega)
 rw [w8 h.1] at this
 unfold wordB; exact this.symm
theorem takes_len (op : Int) : (takesL op).length = (kRow op).2.1.size := by unfold takesL; rw [qx]; exact Array.length_toList
theorem bytes_nil (b : ByteArray) : b.data.toList.isEmpty = decide (b = ⟨#[]⟩) := by
 obtain ⟨⟨l⟩⟩ := b
 cases l <;> simp
theorem makesB_eq (op : Int) : makesB op = !decide ((kRow op).2.2 = ⟨#[]⟩) := by unfold makesB; rw [bytes_nil]
theorem kRow_none {op : Int} (h : ¬ (0 ≤ op ∧ op ≤ 26)) : kRow op = (⟨#[]⟩, ⟨#[]⟩, ⟨#[]⟩) := kRow_out (by unfold isOp; simp; omega)
theorem instOK_iff (f : PFunc) (x : PInst) : instOK f x = true ↔ InstP f x := by
 by_cases h : 0 ≤ x.op ∧ x.op ≤ 26
 ·have hw := word_ne h
  have hn := wordB_num h
  unfold instOK inst1 inst2 InstP bad2
  rw [takes_len, makesB_eq, hn]
  by_cases h1 : x.args.length = (kRow x.op).2.1.size <;> by_cases h2 : (kRow x.op).2.2 = ⟨#[]⟩ <;> by_cases h3 : x.dst = -1 <;> by_cases h4 : x.num = 0 <;> by_cases h5 : x.args.all (hasV f) = true <;> simp_all [Int.ofNat_inj] <;> (try (unfold hasV; simp)) <;> (try grind)
 ·constructor
  ·intro h2
   have := kRow_none h
   unfold instOK inst1 at h2
   rw [this] at h2; simp at h2
  ·intro h2; exact absurd ⟨h2.1, h2.2.1⟩ h
def only (f : PFunc) (x : PInst) : PFunc := { f with blocks := [⟨⟨#[111, 110, 108, 121]⟩, [], [x], ⟨0, 0, 0, 0⟩⟩] }
def ended (f : PFunc) (b0 : PBlock) (bs : List PBlock) (t : PTerm) : PFunc := { f with blocks := { b0 with term := t } :: bs }
end Go.Proofs.YtiojekbkamegdaaGreatDoor
namespace Go.Proofs.YtiojekbkamegdaaGreatDoor
open Go.Proofs.Tryz
open Go.ChangeShapes Go.WideShapes Go.ChangeAt Go.RowKit Go.Deep
def full (W : World) : Ghost := fun b => W.heap[b]?
theorem full_sl (W : World) : SL (full W) [] W W := ⟨rfl, rfl, rfl, fun _ _ h => h, by simp, by simp, by simp, fun _ _ h => h, (fun _ _ h h2 => by rw [show W.heap[_]? = some _ from h] at h2; cases h2), by simp⟩
def I0 (W : World) : G := ⟨full W, fun _ => none⟩
theorem cell_known {W : World} {p : Addr} {v : Value} (h : W.cell? p = some v) : p = ⟨p.block, p.off, none⟩ ∧ KAt (full W) p.block p.off v := by
 unfold World.cell? at h
 split at h
 ·rename_i c t f hb
  split at h
  ·cases h
  ·rename_i hs
   have : p.spot = none := by simpa using hs
   obtain ⟨b, o, s⟩ := p
   simp only at this
   subst this
   exact ⟨rfl, ⟨c, t, f, hb, h⟩⟩
 ·cases h
def Dec (P : Program) (W : World) (T : TypeId) {α : Type} (enc : α → List AV) (ok : α → Prop) : Prop :=
 ∀ {H : Type} (e : TypeId × Value → H) (held : Bool) (fuel : Nat) (cs : List Value) (x : DataW H × List MemPlace), DataW.trod e P W 0 (fun _ => true) held fuel T cs = some x → ∃ a, ok a ∧ RepL (I0 W) (enc a) cs
section
variable {P : Program} {W : World} {T e : TypeId}
theorem Dec.int {k : IntKind} (hu : P.underlying T = some (.int k)) : Dec P W T (fun x : Int => [.int k x]) (fun x => (Lit.int k x).wf = true) := fun _ _ _ _ _ h => by
 obtain ⟨n, rfl, _, hw⟩ := DataW.trod_int hu h
 exact ⟨n, hw, _, _, rfl, rfl, rfl⟩
theorem Dec.bool (hu : P.underlying T = some .bool) : Dec P W T (fun x : Bool => [.bool x]) (fun _ => True) := fun _ _ _ _ _ h => by
 obtain ⟨n, rfl, _⟩ := DataW.trod_bool hu h
 exact ⟨n, trivial, _, _, rfl, rfl, rfl⟩
theorem Dec.str (hu : P.underlying T = some .string) : Dec P W T (fun x : ByteArray => [.str x]) (fun x => x.size ≤ maxLen) := fun _ _ _ _ _ h => by
 obtain ⟨n, rfl, _, hw⟩ := DataW.trod_string hu h
 exact ⟨n, hw, _, _, rfl, rfl, rfl⟩
theorem Dec.slice {α : Type} {enc : α → List AV} {ok : α → Prop} {k : Nat} (ht : P.underlying T = some (.slice e)) (he : Dec P W e enc ok) (hk : P.cellsOf e = k) (hk0 : 0 < k) :
  Dec P W T (fun xs : List α => [.fro k (xs.map enc)]) (fun xs => (∀ x ∈ xs, ok x) ∧ xs.length ≤ maxLen) := fun en held fuel cs x h => by
 rcases open_slice ht h with ⟨rfl, _⟩ | ⟨a, len, cap, m, n, D, Pl, rfl, _, hl, hc, hm, _, hr⟩
 ·exact ⟨[], ⟨by simp, qt _⟩, _, _, rfl, ⟨none, 0, 0, rfl, rfl, Nat.le_refl _, fun _ => rfl, trivial⟩, rfl⟩
 ·simp only [if_true] at hm
  have each : ∀ i, i < len → ∃ y : α, ok y ∧ ∃ vs : List Value, vs.length = k ∧ RepL (I0 W) (enc y) vs ∧ ∀ j (u : Value), vs[j]? = some u → W.cell? (a.add (i * k + j)) = some u := by
   intro i hi
   obtain ⟨cs, h1, h2⟩ := hr i (by omega)
   rw [hk] at h1
   obtain ⟨_, hcl, hat⟩ := World.cells?_some h1
   obtain ⟨y, hy, hrep⟩ := he en held n cs _ h2
   refine ⟨y, hy, cs, hcl, hrep, fun j u hu => ?_⟩
   have hj : j < k := by have := (List.getElem?_eq_some_iff.1 hu).1; omega
   have := hat j hj
   rw [Go.Deep.add_add] at this
   rw [this, hu]
  by_cases h0 : len = 0
  ·subst h0
   exact ⟨[], ⟨by simp, qt _⟩, _, _, rfl, ⟨some a, 0, cap, rfl, rfl, qt _, fun h => by (cases h), trivial⟩, rfl⟩
  ·obtain ⟨y0, _⟩ := each 0 (by omega)
   have : Inhabited α := ⟨y0⟩
   obtain ⟨Y, hY⟩ := choose_lt each
   have ha : a = ⟨a.block, a.off, none⟩ := by
    obtain ⟨_, vs, hvl, _, hat⟩ := hY 0 (by omega)
    have := hat 0 _ (qq (show 0 < vs.length by omega))
    rw [Nat.zero_mul] at this
    exact (cell_known (by simpa [Addr.add] using this)).1
   refine ⟨(List.range len).map Y, ⟨?_, by simp; omega⟩, _, _, Z, ⟨some a, len, cap, Z, by simp, hl, fun h => by (cases h), RepR.intro fun j r hj => ?_⟩, Z⟩
   ·intro x hx
    obtain ⟨i, hi, rfl⟩ := List.mem_map.1 hx
    exact (hY i (by simpa using hi)).1
   ·rw [qy, qy] at hj
    have hjl : j < len := by
     rcases Nat.lt_or_ge j len with h | h
     ·exact h
     ·rw [List.getElem?_eq_none (by simpa using h)] at hj; cases hj
    rw [List.getElem?_range hjl] at hj
    simp only [Option.map_some, Option.some.injEq] at hj
    subst hj
    obtain ⟨_, vs, hvl, hrep, hat⟩ := hY j hjl
    refine ⟨a.block, a.off, vs, by rw [← ha], hvl, hrep, fun i u hu => ?_⟩
    have := hat i u hu
    rw [ha, addr_add] at this
    have := (cell_known this).2
    rw [Nat.zero_add, Nat.add_assoc]; exact this
theorem RepL.fld {I : G} {cs : List Value} {e es : List AV} {o k : Nat} (h1 : RepL I e ((cs.drop o).take k)) (h2 : RepL I es (cs.drop (o + k))) : RepL I (e ++ es) (cs.drop o) := by
 have := h1.append h2
 rwa [← List.drop_drop, List.take_append_drop] at this
theorem RepL.fin {I : G} {cs : List Value} {o : Nat} (h : cs.length = o) : RepL I [] (cs.drop o) := List.drop_eq_nil_of_le (by omega)
theorem Dec.at {α : Type} {enc : α → List AV} {ok : α → Prop} {f : Field} {H : Type} {en : TypeId × Value → H} {held : Bool} {n o k i : Nat} {cs : List Value} {xs : List (DataW H × List MemPlace)}
  (h1 : DataW.trod en P W 0 (fun _ => true) held n f.type ((cs.drop f.offset).take (P.cellsOf f.type)) = xs[i]?) (hd : Dec P W f.type enc ok) (h2 : i < xs.length) (ho : f.offset = o) (hk : P.cellsOf f.type = k) :
  ∃ a, ok a ∧ RepL (I0 W) (enc a) ((cs.drop o).take k) := by
 rw [qq h2, ho, hk] at h1
 exact hd en held n _ _ h1
theorem Dec.pair {α : Type} {enc : α → List AV} {ok : α → Prop} {k : Nat} (ht : P.underlying T = some (.array 2 e)) (he : Dec P W e enc ok) (hk : P.cellsOf e = k) (hT : P.cellsOf T = k + k) :
  Dec P W T (fun x : α × α => enc x.1 ++ enc x.2) (fun x => ok x.1 ∧ ok x.2) := fun en held fuel cs x h => by
 obtain ⟨xs, m, _, _, hl, hxl, hf⟩ := DataW.trod_array ht h
 have h0 := hf 0 (by omega)
 have h1 := hf 1 (by omega)
 rw [qq (by omega), hk] at h0 h1
 rw [Nat.zero_mul] at h0
 rw [Nat.one_mul] at h1
 obtain ⟨a, ha, ra⟩ := he en held m _ _ h0
 obtain ⟨b, hb, rb⟩ := he en held m _ _ h1
 refine ⟨(a, b), ⟨ha, hb⟩, ?_⟩
 have hcl : cs.length = k + k := by rw [hl, hT]
 have h2 : (cs.drop k).take k = cs.drop k := List.take_of_length_le (by rw [List.length_drop]; omega)
 rw [h2] at rb
 have := ra.append rb
 rw [List.drop_zero, List.take_append_drop] at this
 exact this
theorem Dec.map {α β : Type} {enc : α → List AV} {ok : α → Prop} {enc' : β → List AV} {ok' : β → Prop} (h : Dec P W T enc ok) (g : α → β) (he : ∀ a, enc' (g a) = enc a) (hk : ∀ a, ok a → ok' (g a)) : Dec P W T enc' ok' := fun en held fuel cs x hx => by
 obtain ⟨a, h1, h2⟩ := h en held fuel cs x hx
 exact ⟨g a, hk a h1, by rw [he]; exact h2⟩
end
theorem tabIs_of_reads {P : Program} {W : World} {name : String} {k : IntKind} {zs : List Int} {g : Nat} {t e : TypeId} {n : Nat}
  (hg : P.globalNamed name = some g) (hty : (P.globals[g]?).map (·.type) = some t) (ht : P.underlying t = some (.array n e)) (he : P.underlying e = some (.int k)) (hce : P.cellsOf e = 1) (hct : P.cellsOf t = n)
  (h : Lib.VarReads P W name (Lib.tabData k zs)) : Lib.TabIs P W name k zs := by
 obtain ⟨g', t', cs, fuel, p, hg', ht', hvar, hd⟩ := h
 obtain rfl := Option.some.inj (hg.symm.trans hg')
 obtain rfl := Option.some.inj (hty.symm.trans ht')
 unfold Lib.TabIs
 rw [hvar, ← Lib.cells_of_tab ht he hce hct hd]
theorem AFun.call {P : Program} {W : World} {f : FuncId} {us : List AV} {vs : List Value} {r : AV} (h : AFun P W f us r) (hr : RepL (I0 W) us vs) (hp : r.plain = true) : Calls P f vs.toArray W fun e w' => ∃ v, e = .returned v ∧ RepV (I0 W) r v ∧ Below W.heap.size W w' := by
 have := (h (I0 W) [] W vs hr ⟨⟨0, fun _ _ => rfl⟩, [], rfl, full_sl W⟩).2
 refine this.mono fun e w' ⟨v, he, J, x, O', hle, hx, hS, hxr⟩ => ⟨v, he, ?_, ?_⟩
 ·subst hxr; exact AV.plain_rep hp hx
 ·obtain ⟨_, L, _, hSL⟩ := hS
  exact hSL.belowE
end Go.Proofs.YtiojekbkamegdaaGreatDoor
namespace Go.Proofs.YtiojekbkamegdaaGreatDoor
open Go.Proofs.Tryz
def gdiff (J : Ghost) (E : World) : Ghost := fun b => match E.heap[b]? with
 | none => J b
 | some _ => none
theorem gdiff_some {J : Ghost} {E : World} {b : Nat} {o : Obj} (h : gdiff J E b = some o) : E.heap[b]? = none ∧ J b = some o := by
 unfold gdiff at h
 cases hE : E.heap[b]? with
 | none => rw [hE] at h; exact ⟨rfl, h⟩
 | some x => rw [hE] at h; cases h
theorem gdiff_le {I J : Ghost} (E : World) (h : I.le J) : (gdiff I E).le (gdiff J E) := fun b o hb => by
 obtain ⟨h1, h2⟩ := gdiff_some hb
 unfold gdiff
 rw [h1]; exact h _ _ h2
def GD (J : Ghost) (E : World) : G := ⟨gdiff J E, fun _ => none⟩
theorem GD.le {I J : Ghost} (E : World) (h : I.le J) : (GD I E).le (GD J E) := ⟨gdiff_le E h, fun _ _ h => by cases h⟩
def newv (E : World) (x : AV) : AV := .ext fun J v => RepV (GD J E) x v
theorem newv_rep {I : G} {E : World} {x : AV} {v : Value} (h : RepV I (newv E x) v) : RepV (GD I.k E) x v := h.2 _ (.refl _)
def Up (E : World) (xs ys : List AV) : Prop := ∀ (I : G) vs, RepL I xs vs → RepL (GD I.k E) ys vs
theorem Up.nil {E : World} : Up E [] [] := fun _ _ h => h
theorem Up.int {E : World} {k : IntKind} {n : Int} {xs ys : List AV} (h : Up E xs ys) : Up E (.int k n :: xs) (.int k n :: ys) := fun I _ ⟨v, us, e, h1, h2⟩ => ⟨v, us, e, h1, h I us h2⟩
theorem Up.str {E : World} {s : ByteArray} {xs ys : List AV} (h : Up E xs ys) : Up E (.str s :: xs) (.str s :: ys) := fun I _ ⟨v, us, e, h1, h2⟩ => ⟨v, us, e, h1, h I us h2⟩
theorem Up.new {E : World} {x : AV} {xs ys : List AV} (h : Up E xs ys) : Up E (newv E x :: xs) (x :: ys) := fun I _ ⟨v, us, e, h1, h2⟩ => ⟨v, us, e, newv_rep h1, h I us h2⟩
theorem Up.append {E : World} {a b c d : List AV} (h1 : Up E a c) (h2 : Up E b d) : Up E (a ++ b) (c ++ d) := fun I vs h => by
 have e1 := h.take a.length
 have e2 := h.drop a.length
 rw [List.take_left] at e1
 rw [List.drop_left] at e2
 have := (h1 I _ e1).append (h2 I _ e2)
 rwa [List.take_append_drop] at this
theorem Up.map {E : World} {α : Type} {enc enc' : α → List AV} (h : ∀ x, Up E (enc x) (enc' x)) : ∀ l : List α, Up E (l.map enc).flatten (l.map enc').flatten
 | [] => Up.nil
 | x :: l => by simpa using (h x).append (Up.map h l)
section
variable {E : World} {P : Program} {n : Nat} {env : AEnv} {O O' O'' : OL} {i k m : Nat} {T : TypeId} {rows rows' : List (List AV)}
end
section
variable {E : World} {P : Program} {f : FuncId} {us bs : List AV} {r : AV}
theorem RepL.imp {I J : G} {g h : AV → AV} (hi : ∀ c v, RepV I (g c) v → RepV J (h c) v) : ∀ (cs : List AV) (vs : List Value), RepL I (cs.map g) vs → RepL J (cs.map h) vs
 | [], _, e => e
 | _ :: cs, _, ⟨v, us, e, h1, h2⟩ => ⟨v, us, e, hi _ _ h1, RepL.imp hi cs us h2⟩
end
def TurnV (B : Nat) : Value → Value → Prop
 | .int k _, v' => ∃ n, v' = .int k n
 | .string s, v' => ∃ s', v' = .string s' ∧ s'.size ≤ s.size + B
 | v, v' => v' = v
def TurnO (B : Nat) : Obj → Obj → Prop
 | .cells c T _, o' => ∃ c' : Array Value, o' = .cells c' T (0, 0) ∧ c'.size = c.size ∧ ∀ (i : Nat) v, c[i]? = some v → ∃ v', c'[i]? = some v' ∧ TurnV B v v'
 | o, o' => o' = o
def Turned (B : Nat) : List (Nat × Obj) → List (Nat × Obj) → Prop
 | [], L' => L' = []
 | (b, o) :: L, L' => ∃ o' R, L' = (b, o') :: R ∧ TurnO B o o' ∧ Turned B L R
theorem TurnV.refl (B : Nat) (v : Value) : TurnV B v v := by
 cases v <;> first | exact rfl | exact ⟨_, rfl⟩ | exact ⟨_, rfl, Nat.le_add_right _ _⟩
theorem TurnV.more {B B' : Nat} (h : B ≤ B') {v v' : Value} (hv : TurnV B v v') : TurnV B' v v' := by
 cases v <;> first | exact hv | (obtain ⟨s', e, hs⟩ := hv; exact ⟨s', e, by omega⟩)
theorem TurnO.more {B B' : Nat} (h : B ≤ B') {v v' : Obj} (hv : TurnO B v v') : TurnO B' v v' := by
 cases v <;> first | exact hv | (obtain ⟨s', e, hs, h2⟩ := hv; exact ⟨s', e, hs, fun i v hi => let ⟨v', a, b⟩ := h2 i v hi; ⟨v', a, b.more h⟩⟩)
theorem Turned.more {B B' : Nat} (h : B ≤ B') : ∀ {L L' : List (Nat × Obj)}, Turned B L L' → Turned B' L L'
 | [], _, e => e
 | _ :: _, _, ⟨o', R, e, h1, h2⟩ => ⟨o', R, e, h1.more h, Turned.more h h2⟩
theorem Turned.refl (B : Nat) : ∀ {L : List (Nat × Obj)}, (∀ y ∈ L, flatO y.2) → Turned B L L
 | [], _ => rfl
 | (b, o) :: L, h => ⟨o, L, rfl, by
   have := h (b, o) (.head _)
   cases o <;> first | exact rfl | (have this : _ = (0, 0) := this; subst this; exact ⟨_, rfl, rfl, fun i v hv => ⟨v, hv, .refl _ _⟩⟩), Turned.refl B fun y hy => h y (.tail _ hy)⟩
theorem Turned.at {B : Nat} {b : Nat} {c : Array Value} {T : TypeId} {fz : Nat × Nat} : ∀ {L L' : List (Nat × Obj)}, Turned B L L' → L.lookup b = some (.cells c T fz) →
  ∃ c' X Y, L' = X ++ (b, .cells c' T (0, 0)) :: Y ∧ c'.size = c.size ∧ (∀ (i : Nat) v, c[i]? = some v → ∃ v', c'[i]? = some v' ∧ TurnV B v v') ∧
   ∀ B' (c'' : Array Value), B ≤ B' → c''.size = c.size → (∀ (i : Nat) v, c[i]? = some v → ∃ v', c''[i]? = some v' ∧ TurnV B' v v') → Turned B' L (X ++ (b, .cells c'' T (0, 0)) :: Y)
 | [], _, _, h => by cases h
 | (a, o) :: L, L', ⟨o', R, e, h1, h2⟩, h => by
  rw [List.lookup_cons] at h
  cases hb : b == a with
  | true =>
   rw [hb] at h
   cases h
   have hba : b = a := by simpa using hb
   subst hba
   obtain ⟨c', rfl, hs, hc⟩ := h1
   exact ⟨c', [], R, e, hs, hc, fun B' c'' hB hs' hc' => ⟨_, R, rfl, ⟨c'', rfl, hs', hc'⟩, h2.more hB⟩⟩
  | false =>
   rw [hb] at h
   obtain ⟨c', X, Y, rfl, hs, hc, hk⟩ := Turned.at h2 h
   exact ⟨c', (a, o') :: X, Y, e, hs, hc, fun B' c'' hB hs' hc' => ⟨o', _, rfl, h1.more hB, hk B' c'' hB hs' hc'⟩⟩
section
variable {E : World} {P : Program} {n : Nat} {ops : Array Oper} {K : AEnv → OL → Prop} {env : AEnv} {O O' : OL} {rest : List Oper}
variable {d ty : Nat} {pos : String} {af : Array Edge} {t e : TypeId} {x y : Operand} {L : List (Nat × Obj)}
theorem GStep.turn (hP : Put O 0 (.heap (fun L' => L' = L)) (.heap (Turned 0 L)) O') : GStep E env O env O' := fun I F ρ w h1 ⟨ht, L0, hL, hS⟩ => by
 obtain ⟨A, B, hp, hA, hback⟩ := hP.rep hL
 have hA : A = L := hA
 subst hA
 obtain ⟨L', h3, h4⟩ := hback (qb I) (A' := A) (Turned.refl 0 fun y hy => hS.oflat y (List.mem_append_left _ (hp.mem_iff.2 (List.mem_append_left _ hy))))
 exact ⟨I, .refl _, h1, ht, L', h3, hS.perm ((h4.trans hp.symm).append_right F)⟩
end
end Go.Proofs.YtiojekbkamegdaaGreatDoor
namespace Go.Proofs.YtiojekbkamegdaaGreatDoor
open Go.Proofs.Tryz
section
variable {E : World} {P : Program} {n : Nat} {ops : Array Oper} {K : AEnv → OL → Prop} {env : AEnv} {O O' : OL} {rest : List Oper}
variable {d ty : Nat} {pos : String} {af : Array Edge} {t e : TypeId} {x y : Operand}
theorem RepR.drop {I : G} {k n c j : Nat} {a : Option Addr} {rows : List (List AV)} (hn : n = rows.length) (hnc : n ≤ c) (hr : RepR I k a 0 rows) : RepR I k (if c = j then a else a.map (·.add (j * k))) 0 (rows.drop j) :=
 RepR.intro fun j' r hj => by
  rw [List.getElem?_drop] at hj
  have hlt := (List.getElem?_eq_some_iff.1 hj).1
  obtain ⟨b, off, vs, rfl, h4, h5, h6⟩ := hr.get hj
  rw [if_neg (by omega)]
  refine ⟨b, off + j * k, vs, by simp [Addr.add], h4, h5, fun i u hu => ?_⟩
  have := h6 i u hu
  rw [Nat.zero_add, Nat.add_mul] at this
  rw [Nat.zero_add]
  rwa [← Nat.add_assoc] at this
theorem RepR.take {I : G} {k j : Nat} {a : Option Addr} {rows : List (List AV)} (hr : RepR I k a 0 rows) : RepR I k a 0 (rows.take j) :=
 RepR.intro fun j' r hj => by
  rw [List.getElem?_take] at hj
  split at hj
  ·exact hr.get hj
  ·cases hj
theorem Gv.cutLo {k j : Nat} {a : Int} {rows : List (List AV)} (ht : P.underlying t = some (.slice e)) (hs : ∀ w, (sizeOf e).run P w = .ok k w) (hx : aev env x = .fro k rows) (hy : aev env y = .int .i64 a) (hi : a = (j : Int)) (hj : j ≤ rows.length) :
  Gv P env O (Oper.mk (some d) (.slice t x (some y) none none) ty pos af none) (.fro k (rows.drop j)) := Gv.ofEv fun I ρ h => by
 have h2 := h.ev x
 rw [hx] at h2
 obtain ⟨p, n, c, ex, hn, hnc, hnil, hr⟩ := h2
 have h3 := evI h hy
 subst hi
 refine ⟨.slice (if c = j then p else p.map (·.add (j * k))) (n - j) (c - j), ⟨_, _, _, Z, by rw [List.length_drop, hn], by omega, fun hp=>?_, hr.drop hn hnc⟩, fun w=>?_⟩
 ·split at hp
  ·omega
  ·cases p with
   | none => have := hnil rfl; omega
   | some q => cases hp
 ·have hjn : j ≤ n := by omega
  simp [execOp, Instr.sliceAt, Instr.slice, Instr.sliceBounds, Instr.sliceBound, asIntOf, Sem.run_bind, run_underlying ht, hs, ex, h3, hjn]
theorem Gv.cutLoM {α : Type} {enc : α → List AV} {xs : List α} {k j : Nat} {a : Int} (ht : P.underlying t = some (.slice e)) (hs : ∀ w, (sizeOf e).run P w = .ok k w) (hx : aev env x = .fro k (xs.map enc)) (hy : aev env y = .int .i64 a) (hi : a = (j : Int)) (hj : j ≤ xs.length) :
  Gv P env O (Oper.mk (some d) (.slice t x (some y) none none) ty pos af none) (.fro k ((xs.drop j).map enc)) := by
 have := Gv.cutLo (d := d) (ty := ty) (pos := pos) (af := af) (O := O) ht hs hx hy hi (by rwa [qx])
 rwa [← List.map_drop] at this
end
end Go.Proofs.YtiojekbkamegdaaGreatDoor
namespace Go.Proofs.YtiojekbkamegdaaGreatDoor
open Go.Proofs.Tryz
def mget (s : ByteArray) : List (ByteArray × Int) → Option Int
 | [] => none
 | (k, v) :: es => if s = k then some v else mget s es
def mset (s : ByteArray) (v : Int) : List (ByteArray × Int) → List (ByteArray × Int)
 | [] => [(s, v)]
 | (k, u) :: es => if s = k then (k, v) :: es else (k, u) :: mset s v es
def encME (p : ByteArray × Int) : Value × Value := (.string p.1, .int .i64 p.2)
def mapP (b : Nat) (es : List (ByteArray × Int)) (L : List (Nat × Obj)) : Prop := ∃ (arr : Array MapEntry) (clock : Nat), L = [(b, .map arr clock)] ∧ arr.toList.map (fun e => (e.key, e.val)) = es.map encME
def mapO (b : Nat) (es : List (ByteArray × Int)) : AObj := .heap (mapP b es)
def mref (b : Nat) : AV := .raw (.map (some b))
theorem findNow_none {s : ByteArray} : ∀ {l : List MapEntry} {es : List (ByteArray × Int)} {i : Nat}, l.map (fun e => (e.key, e.val)) = es.map encME → mget s es = none → Instr.findNow .string (.string s) l i = some none
 | [], [], _, _, _ => rfl
 | [], _ :: _, _, h, _ => by cases h
 | _ :: _, [], _, h, _ => by cases h
 | e :: l, (k, v) :: es, i, h, hg => by
  simp only [List.map_cons, List.cons.injEq, encME, Prod.mk.injEq] at h
  obtain ⟨⟨h1, _⟩, h2⟩ := h
  simp only [mget] at hg
  split at hg
  ·cases hg
  ·rename_i hne
   unfold Instr.findNow
   rw [h1]
   have : (s == k) = false := Bool.eq_false_iff.2 fun h => hne ((MapKept.bytes_beq s k).1 h)
   simp only [Instr.sameNow, this]
   exact findNow_none h2 hg
theorem findNow_some {s : ByteArray} {u : Int} : ∀ {l : List MapEntry} {es : List (ByteArray × Int)} {i : Nat}, l.map (fun e => (e.key, e.val)) = es.map encME → mget s es = some u →
  ∃ j, Instr.findNow .string (.string s) l i = some (some (i + j, .int .i64 u)) ∧ (∃ e, l[j]? = some e ∧ e.key = .string s) ∧ ∀ v, es.set j (s, v) = mset s v es
 | [], [], _, _, hg => by cases hg
 | [], _ :: _, _, h, _ => by cases h
 | _ :: _, [], _, h, _ => by cases h
 | e :: l, (k, v) :: es, i, h, hg => by
  simp only [List.map_cons, List.cons.injEq, encME, Prod.mk.injEq] at h
  obtain ⟨⟨h1, h3⟩, h2⟩ := h
  simp only [mget] at hg
  unfold Instr.findNow
  rw [h1]
  split at hg
  ·rename_i heq
   subst heq
   cases hg
   refine ⟨0, ?_, ⟨e, Z, h1⟩, fun v=>?_⟩
   ·have hss : (s == s) = true := (MapKept.bytes_beq s s).2 rfl
    simp only [Instr.sameNow, hss]
    rw [h3]; rfl
   ·simp [mset]
  ·rename_i hne
   have hb : (s == k) = false := Bool.eq_false_iff.2 fun h => hne ((MapKept.bytes_beq s k).1 h)
   obtain ⟨j, g1, g2, g3⟩ := findNow_some (i := i + 1) h2 hg
   refine ⟨j + 1, ?_, by simpa using g2, fun v=>?_⟩
   ·simp only [Instr.sameNow, hb, g1]
    congr 3; omega
   ·simp [mset, hne, g3]
section
variable {E : World} {P : Program} {n : Nat} {ops : Array Oper} {K : AEnv → OL → Prop} {env : AEnv} {O O' : OL} {rest : List Oper}
variable {d ty : Nat} {pos : String} {af : Array Edge} {t e kt : TypeId} {x y z : Operand} {b i : Nat} {es : List (ByteArray × Int)}
theorem AOps.makeMap (k : ∀ b, AOps P E ops K rest (aupd env d (mref b)) ((0, mapO b []) :: O)) : AOps P E ops K (Oper.mk (some d) (.makeMap t none) ty pos af none :: rest) env O := fun I F ρ w h1 ⟨ht, L, hL, hS⟩ => by
 refine Ops.step Z ?_
 unfold OpW
 have : (execOp (Go.Proofs.YtiojekbkamegdaaGreatDoor.ev ρ) (Oper.mk (some d) (.makeMap t none) ty pos af none)).run P w = .ok (.value (.map (some w.heap.size))) (w.alloc (.map #[] 0)) := by
  simp only [execOp, Option.map_none]
  rw [Sem.run_bind, run_makeMap_plain]; rfl
 rw [this]
 exact k w.heap.size I F _ _ (h1.upd d rfl) ⟨ht, (w.heap.size, .map #[] 0) :: L, ⟨[_], L, rfl, ⟨#[], 0, rfl, rfl⟩, hL⟩, hS.alloc _⟩
theorem map_in {I : G} {L : List (Nat × Obj)} (hO : Has O i (mapO b es)) (hL : RepOs I O L) : ∃ (arr : Array MapEntry) (clock : Nat), (b, Obj.map arr clock) ∈ L ∧ arr.toList.map (fun e => (e.key, e.val)) = es.map encME := by
 obtain ⟨O', hO⟩ := hO
 obtain ⟨A, B, hp, ⟨arr, clock, rfl, h2⟩, _⟩ := hO.rep hL
 exact ⟨arr, clock, hp.mem_iff.2 (by simp), h2⟩
theorem AOps.mapSet {s : ByteArray} {v : Int} (ht : P.underlying t = some (.map kt e)) (hk : P.underlying kt = some .string) (hx : aev env x = mref b) (hy : aev env y = .str s) (hz : aev env z = .int .i64 v) (hO : Put O i (mapO b es) (mapO b (mset s v es)) O')
  (k : AOps P E ops K rest env O') : AOps P E ops K (Oper.mk none (.mapUpdate t x y z) ty pos af none :: rest) env O := fun I F ρ w h1 ⟨htop, L, hL, hS⟩ => by
 have hx := evRaw h1 hx
 have hy := evT h1 hy
 have hz := evI h1 hz
 obtain ⟨A, B, hp, ⟨arr, clock, rfl, he⟩, hback⟩ := hO.rep hL
 have hS2 : SL I.k ((b, .map arr clock) :: (B ++ F)) E w := hS.perm ((hp.append_right F).symm)
 have hb := hS2.own _ (.head _)
 simp only at hb
 have hc : (Instr.checkKey false 10000 kt (.string s)).run P w = .ok () w := MapKept.run_checkKey (k := .string s) hk (by simp [MapKept.IsKey]) false 9999
 have fin : ∀ (arr' : Array MapEntry) (clock' : Nat), arr'.toList.map (fun e => (e.key, e.val)) = (mset s v es).map encME →
   (execOp (Go.Proofs.YtiojekbkamegdaaGreatDoor.ev ρ) (Oper.mk none (.mapUpdate t x y z) ty pos af none)).run P w = .ok .skip { w with heap := w.heap.setIfInBounds b (.map arr' clock') } → Ops P ops (postK I F E K) (Oper.mk none (.mapUpdate t x y z) ty pos af none :: rest) ρ w := fun arr' clock' he' hrun => by
  refine Ops.step Z ?_
  unfold OpW
  rw [hrun]
  obtain ⟨L', h7, h8⟩ := hback (qb I) (A' := [(b, .map arr' clock')]) ⟨arr', clock', rfl, he'⟩
  have hh := MapKept.heap_set (o' := .map arr' clock') hb
  have hS3 : SL I.k ((b, .map arr' clock') :: (B ++ F)) E { w with heap := w.heap.setIfInBounds b (.map arr' clock') } := hS2.turn rfl rfl rfl hh.1 hh.2
  exact k I F ρ _ h1 ⟨htop, L', h7, hS3.perm (h8.append_right F)⟩
 cases hg : mget s es with
 | none =>
  have hf := findNow_none (i := 0) he hg
  refine fin (arr.push { key := .string s, val := .int .i64 v, born := clock }) (clock + 1) ?_ ?_
  ·have hset : ∀ es : List (ByteArray × Int), mget s es = none → mset s v es = es ++ [(s, v)] := fun es => by
    induction es with
    | nil => intro _; rfl
    | cons x es ih =>
     obtain ⟨k, u⟩ := x
     intro hg
     simp only [mget] at hg
     split at hg
     ·cases hg
     ·rename_i hne; simp [mset, hne, ih hg]
   rw [hset es hg]
   simp [he, encME]
  ·simp [execOp, hx, hy, hz, Instr.mapUpdate, run_underlying ht, MapKept.run_getObj_map hb, hc, MapKept.run_findKey hk hf, MapKept.run_setObj_map _ hb, Result.andThen]
 | some u =>
  obtain ⟨j, hf, ⟨e0, hj, hkey⟩, hset⟩ := findNow_some (i := 0) he hg
  rw [Nat.zero_add] at hf
  have hj' : arr[j]? = some e0 := by rw [← Array.getElem?_toList]; exact hj
  refine fin (arr.modify j fun e => { e with key := .string s, val := .int .i64 v }) clock ?_ ?_
  ·rw [← hset v, List.map_set]
   have hjl : j < arr.toList.length := (List.getElem?_eq_some_iff.1 hj).1
   have : (arr.modify j fun e => { e with key := .string s, val := .int .i64 v }).toList = arr.toList.set j { e0 with key := .string s, val := .int .i64 v } := by
    apply List.ext_getElem?
    intro q
    rw [Array.getElem?_toList, Array.getElem?_modify]
    by_cases hq : j = q
    ·subst hq
     rw [if_pos rfl, hj', List.getElem?_set_self hjl]; rfl
    ·rw [if_neg hq, List.getElem?_set_ne hq, Array.getElem?_toList]
   rw [this, List.map_set, he]; rfl
  ·have hkeep : (Instr.keyThatStays (.string s) (.string s)).run P w = .ok (.string s) w := by
    have hss : (s == s) = true := (MapKept.bytes_beq s s).2 rfl
    simp [Instr.keyThatStays, Instr.sameBits, hss]
   simp [execOp, hx, hy, hz, Instr.mapUpdate, run_underlying ht, MapKept.run_getObj_map hb, hc, MapKept.run_findKey hk hf, MapKept.run_setObj_map _ hb, Result.andThen, hj', hkey, hkeep]
end
end Go.Proofs.YtiojekbkamegdaaGreatDoor
namespace Go.Proofs.YtiojekbkamegdaaGreatDoor
open Go.Proofs.Tryz
section
variable {E : World} {P : Program} {n : Nat} {ops : Array Oper} {K : AEnv → OL → Prop} {env : AEnv} {O O' : OL} {rest : List Oper} {R : AV → OL → Prop}
variable {d ty : Nat} {pos : String} {af : Array Edge} {t e : TypeId} {x y : Operand}
theorem afin.c1t {t u T i : Nat} {T' : TypeId} {cs : List AV} {n : Nat} {y : AV} (hv : env t = .po i 0) (hu : env u = y) (hO : Has O i (.cells T' cs)) (ha : ∀ w, (isAgg T).run P w = .ok true w) (hs : ∀ w, (sizeOf T).run P w = .ok n w) (hn : cs.length = n) (h : R (.tup [.agg cs, y]) O) :
  afin P E #[.cell t T, .tmp u] R .ret env O := afin.of (x := .tup [.agg cs, y]) (fun I F ρ w h1 h2 => by
 obtain ⟨L, hL, hS⟩ := h2.2
 have h3 := h1 t
 rw [hv] at h3
 obtain ⟨b, c, e1, e⟩ := h3
 obtain ⟨b', c', vs, e2, h4, hm⟩ := hO.cells hL
 rw [e1] at e2; cases e2
 have hl := run_loadVar_agg (P := P) (w := w) (b := b) (off := 0) ha (cs := vs) (by rw [h4.length, hn]; exact hs) (fun j v hj => by
  rw [Nat.zero_add]
  exact hS.at_ (.inr ⟨_, _, _, List.mem_append_left _ hm, by rw [List.getElem?_toArray]; exact hj⟩))
 exact ⟨.tuple #[.agg vs.toArray, ρ u], by simp [resE, e, asAddr, hl], ⟨[_, _], rfl, _, _, rfl, ⟨vs, rfl, h4⟩, _, _, rfl, hu ▸ h1 u, rfl⟩⟩) h
end
end Go.Proofs.YtiojekbkamegdaaGreatDoor
namespace Go.Proofs.YtiojekbkamegdaaGreatDoor
open Go.Proofs.Tryz
open Go.Proofs Go.Lib Go.Shelf Go.RowKit
set_option maxRecDepth 20000
variable {E : World}
def letterC (c : Int) : Bool := isLetterU c && !decide (c = 65533)
def digitC (c : Int) : Bool := decide (48 ≤ c) && decide (c ≤ 57)
def innerC (c : Int) : Bool := letterC c || (digitC c || (decide (c = 46) || decide (c = 95)))
theorem zletter_spec (c : Int) (h1 : -2147483648 ≤ c) (h2 : c ≤ 2147483647) (hL : Letters E) : AFun prog E 284 [.int .i32 c] (.bool (letterC c)) := by
 refine zp func284 Z (by decide) Z<|zSr<|zVzAb Z<|z2<|zSr<|zVzMi Z<|zg (letter_spec c h1 h2 hL) Z<|zVzMb Z<|zq (s := 5) Z (fun c1=>?_) (fun c1=>?_)
 ·refine z7 Z Z c1<|zVzMi Z<|z7 Z Z c1<|zVGvneqI Z Z<|zVzPt Z c1 Z<|zVzAb Z<|z2<|zj<|zk (x := .bool _) Z ?_
  exact jb (by simp_all [letterC])
 ·refine z6 Z Z c1<|z6 Z Z c1<|zVzPf Z c1 Z<|zVzAb Z<|z2<|zj<|zk (x := .bool _) Z ?_
  exact jb (by simp_all [letterC])
theorem zdigit_spec (c : Int) : AFun prog E 287 [.int .i32 c] (.bool (digitC c)) := by
 refine zp func287 Z (by decide) Z<|zSr<|zVzAb Z<|z2<|zSr<|zVzMi Z<|z8 (qd Z Z)<|zVzMb Z<|zq (s := 5) Z (fun c2=>?_) (fun c2=>?_)
 ·refine z7 Z Z c2<|zVzMi Z<|z7 Z Z c2<|z8 (Gv.leq Z Z)<|zVzPt Z c2 Z<|zVzAb Z<|z2<|zj<|zk (x := .bool _) Z ?_
  exact jb (by simp_all [digitC] <;> (intros; omega))
 ·refine z6 Z Z c2<|z6 Z Z c2<|zVzPf Z c2 Z<|zVzAb Z<|z2<|zj<|zk (x := .bool _) Z ?_
  exact jb (by simp_all [digitC] <;> (intros; omega))
theorem zinner_spec (c : Int) (h1 : -2147483648 ≤ c) (h2 : c ≤ 2147483647) (hL : Letters E) : AFun prog E 285 [.int .i32 c] (.bool (innerC c)) := by
 refine zp func285 Z (by decide) Z<|zSr<|zVzAb Z<|z2<|zSr<|zVzMi Z<|zg (zletter_spec c h1 h2 hL) Z<|zVzMb Z<|zq (s := 5) Z (fun c3=>?_) (fun c3=>?_)
 ·refine z6 Z Z c3<|z6 Z Z c3<|zVzPt Z c3 Z<|zVzMb Z<|z6 Z Z Z<|z6 Z Z Z<|zVzPt Z Z Z<|zVzMb Z<|z6 Z Z Z<|z6 Z Z Z<|zVzPt Z Z Z<|zVzAb Z<|z2<|zj<|zk (x := .bool _) Z ?_
  exact jb (by simp_all [innerC])
 ·refine z7 Z Z c3<|zVzMi Z<|z7 Z Z c3<|zg (zdigit_spec _) Z<|zVzPf Z c3 Z<|zVzMb Z<|zq (s := 9) Z (fun c4=>?_) (fun c4=>?_)
  ·refine z6 Z Z c4<|z6 Z Z c4<|zVzPt Z c4 Z<|zVzMb Z<|z6 Z Z Z<|z6 Z Z Z<|zVzPt Z Z Z<|zVzAb Z<|z2<|zj<|zk (x := .bool _) Z ?_
   exact jb (by simp_all [innerC])
  ·refine z7 Z Z c4<|zVzMi Z<|z7 Z Z c4<|zVGveqlI Z Z<|zVzPf Z c4 Z<|zVzMb Z<|zq (s := 13) Z (fun c5=>?_) (fun c5=>?_)
   ·refine z6 Z Z c5<|z6 Z Z c5<|zVzPt Z c5 Z<|zVzAb Z<|z2<|zj<|zk (x := .bool _) Z ?_
    exact jb (by simp_all [innerC])
   ·refine z7 Z Z c5<|zVzMi Z<|z7 Z Z c5<|zVGveqlI Z Z<|zVzPf Z c5 Z<|zVzAb Z<|z2<|zj<|zk (x := .bool _) Z ?_
    exact jb (by simp_all [innerC])
def runesFrom (s : ByteArray) (p : Nat) : List Int := if h : p < s.size then ((Utf8.decode s p).1 : Int) :: runesFrom s (p + (Utf8.decode s p).2) else []
termination_by s.size - p
decreasing_by have := (decode_ok s p).1; omega
theorem runesFrom_lt {s : ByteArray} {p : Nat} (h : p < s.size) : runesFrom s p = ((Utf8.decode s p).1 : Int) :: runesFrom s (p + (Utf8.decode s p).2) := by rw [runesFrom, dif_pos h]
theorem runesFrom_ge {s : ByteArray} {p : Nat} (h : ¬ p < s.size) : runesFrom s p = [] := by rw [runesFrom, dif_neg h]
theorem runesFrom_len (s : ByteArray) : ∀ k p, s.size - p ≤ k → (runesFrom s p).length ≤ k := by
 intro k
 induction k with
 | zero => intro p h; rw [runesFrom_ge (by omega)]; simp
 | succ k ih =>
  intro p h
  by_cases hp : p < s.size
  ·rw [runesFrom_lt hp]
   have := (decode_ok s p).1
   have := ih (p + (Utf8.decode s p).2) (by omega)
   simp; omega
  ·rw [runesFrom_ge hp]; simp
theorem runes_spec (s : ByteArray) (hs : s.size ≤ 140737488355328) : AFun prog E 286 [.str s] (.int .i64 (runesFrom s 0).length) := by
 have h0 := runesFrom_len s s.size 0 (by omega)
 refine zp func286 Z (by decide) Z<|zSr<|zVzAi Z<|z2<|zSr<|zVzAi Z<|z2<|zc<|zSr<|z8 (yw (v := .str _) Z)<|AOps.rangeT Zi Z<|fun i5 => z2<|zi<|y7 (γ := Nat × Nat) [5] (fun g => [(3, .int .i64 g.2)]) (fun g => [(i5, .iter s g.1)]) (fun g => g.2 + (runesFrom s g.1).length = (runesFrom s 0).length) (fun g => s.size - g.1) (0, 0) zR1 zLe (by simp) ?_
 rintro ⟨p, n⟩ hp
 try dsimp only at *
 by_cases hlt : p < s.size
 ·have hd := (decode_ok s p).1
  rw [runesFrom_lt hlt] at hp
  simp only [List.length_cons] at hp
  refine zSr<|AOps.nextT Z .head hlt<|z8 (zXb Z Z)<|z2<|zc<|yq Z Z<|zf<|zi<|zRg<|zVzMi Z<|zVzAd Z Z<|zVzAi Z<|z2 ?_
  exact ⟨(p + (Utf8.decode s p).2, n + 1), zR1, zR1, zLe, by dsimp only; omega, by dsimp only; omega⟩
 ·rw [runesFrom_ge hlt] at hp
  simp only [List.length_nil] at hp
  refine zSr<|AOps.nextTover Z .head hlt<|z8 (zXb Z Z)<|z2<|zc<|yj Z Z<|y6<|zSr<|zVzMi Z<|zVzAi Z<|z2<|zj<|zk (x := .int _ _) Z ?_
  exact congrArg (AV.int .i64) (by omega)
def nmGo (s : ByteArray) (p : Nat) : Bool := if h : p < s.size then (if (decide (p = 0) && !letterC ((Utf8.decode s p).1 : Int)) || !innerC ((Utf8.decode s p).1 : Int) then false else nmGo s (p + (Utf8.decode s p).2)) else (decide (¬ s = ⟨#[]⟩) && decide (((runesFrom s 0).length : Int) ≤ 16))
termination_by s.size - p
decreasing_by have := (decode_ok s p).1; omega
def scanName (s : ByteArray) : Bool := nmGo s 0
theorem zname_spec (s : ByteArray) (hs : s.size ≤ 140737488355328) (hL : Letters E) : AFun prog E 279 [.str s] (.bool (scanName s)) := by
 refine zp func279 Z (by decide) Z<|zSr<|zVzAb Z<|z2<|zc<|zSr<|z8 (yw (v := .str _) Z)<|AOps.rangeT Zi Z<|fun i6 => z2<|zi<|y7 (γ := Nat) [0, 6] (fun p => []) (fun p => [(i6, .iter s p)]) (fun p => nmGo s p = scanName s) (fun p => s.size - p) 0 trivial zLe (Z) ?_
 rintro p hp
 by_cases hlt : p < s.size
 ·obtain ⟨hd1, hd2⟩ := decode_ok s p
  have hstep := hp
  rw [nmGo, dif_pos hlt] at hstep
  refine zSr<|AOps.nextT Z .head hlt<|z8 (zXb Z Z)<|z2<|zc<|yq Z Z<|zf<|zi<|zSr<|z8 (zXi Z Z)<|z8 (zXi Z Z)<|zVzAi Z<|zVzAi Z<|z2<|zSr<|zVzMi Z<|zVGveqlI Z Z<|zVzMb Z<|zq (s := 13) Z (fun c6=>?_) (fun c6=>?_)
  ·refine z7 Z Z c6<|zVzMi Z<|z7 Z Z c6<|zg (zletter_spec _ (by omega) (by omega) hL) Z<|z7 Z Z c6<|zVGvnot Z<|zVzPt Z c6 Z<|zVzMb Z<|zq (s := 18) Z (fun c7=>?_) (fun c7=>?_)
   ·refine z6 Z Z c7<|z6 Z Z c7<|z6 Z Z c7<|zVzPt Z c7 Z<|z2<|yq Z Z<|zSr<|zVzAb Z<|z2<|zj<|zk (x := .bool _) Z ?_
    rw [if_pos (by simp_all <;> omega)] at hstep; exact jb hstep
   ·refine z7 Z Z c7<|zVzMi Z<|z7 Z Z c7<|zg (zinner_spec _ (by omega) (by omega) hL) Z<|z7 Z Z c7<|zVGvnot Z<|zVzPf Z c7 Z<|z2<|zu Z (fun c8=>?_) (fun c8=>?_)
    ·refine zSr<|zVzAb Z<|z2<|zj<|zk (x := .bool _) Z ?_
     rw [if_pos (by simp_all <;> omega)] at hstep; exact jb hstep
    ·refine zf ?_
     exact ⟨p + (Utf8.decode s p).2, zR2, trivial, zLe, by rw [if_neg (by simp_all <;> omega)] at hstep; exact hstep, by omega⟩
  ·refine z6 Z Z c6<|z6 Z Z c6<|z6 Z Z c6<|zVzPf Z c6 Z<|zVzMb Z<|z7 Z Z Z<|zVzMi Z<|z7 Z Z Z<|zg (zinner_spec _ (by omega) (by omega) hL) Z<|z7 Z Z Z<|zVGvnot Z<|zVzPf Z Z Z<|z2<|zu Z (fun c9=>?_) (fun c9=>?_)
   ·refine zSr<|zVzAb Z<|z2<|zj<|zk (x := .bool _) Z ?_
    rw [if_pos (by simp_all <;> omega)] at hstep; exact jb hstep
   ·refine zf ?_
    exact ⟨p + (Utf8.decode s p).2, zR2, trivial, zLe, by rw [if_neg (by simp_all <;> omega)] at hstep; exact hstep, by omega⟩
 ·rw [nmGo, dif_neg hlt] at hp
  refine zSr<|AOps.nextTover Z .head hlt<|z8 (zXb Z Z)<|z2<|zc<|yj Z Z<|y6<|zSr<|z8 (yw (v := .str _) Z)<|z8 (Gv.neqT Z Z)<|zVzMb Z<|zq (s := 25) Z (fun c10=>?_) (fun c10=>?_)
  ·refine z7 Z Z c10<|z8 (yw (v := .str _) Z)<|z7 Z Z c10<|zg (runes_spec _ (by assumption)) Z<|z7 Z Z c10<|z8 (Gv.leq Z Z)<|zVzPt Z c10 Z<|zVzAb Z<|z2<|zj<|zk (x := .bool _) Z ?_
   rw [← hp]; exact jb (by simp_all <;> (try omega))
  ·refine z6 Z Z c10<|z6 Z Z c10<|z6 Z Z c10<|zVzPf Z c10 Z<|zVzAb Z<|z2<|zj<|zk (x := .bool _) Z ?_
   rw [← hp]; exact jb (by simp_all <;> (try omega))
end Go.Proofs.YtiojekbkamegdaaGreatDoor
namespace Go.Proofs.YtiojekbkamegdaaGreatDoor
open Go.Proofs.Tryz
section
variable {E : World} {P : Program} {env : AEnv} {O : OL} {d ty : Nat} {pos : String} {af : Array Edge} {x : Operand} {t u : TypeId}
end
end Go.Proofs.YtiojekbkamegdaaGreatDoor
namespace Go.Proofs.YtiojekbkamegdaaGreatDoor
open Go.Proofs.Tryz
section
variable {E : World} {P : Program} {ops : Array Oper} {K : AEnv → OL → Prop} {env : AEnv} {O O' O'' : OL} {rest : List Oper} {n : Nat}
variable {d ty : Nat} {pos : String} {af : Array Edge} {x y z : Operand} {t u e : TypeId}
theorem drop_last {A row : List AV} {j : Nat} {c : AV} (h : row[j]? = some c) : (A ++ row).drop (A.length + j) = c :: row.drop (j + 1) := by
 obtain ⟨hj, rfl⟩ := List.getElem?_eq_some_iff.1 h
 rw [List.drop_append, List.drop_eq_nil_of_le (by omega), Nat.add_sub_cancel_left, List.nil_append]
 exact List.drop_eq_getElem_cons hj
theorem Gv.loadL {i off j k : Nat} {T : TypeId} {c : AV} {A row : List AV} (ha : ∀ w, (isAgg t).run P w = .ok false w) (hx : aev env x = .po i off) (hoff : off = A.length + j) (hO : Has O i (.grow k T (A ++ row))) (hv : row[j]? = some c) :
  Gv P env O (Oper.mk (some d) (.load t x) ty pos af none) c := Gv.load1G ha hx hO (by subst hoff; exact drop_last hv)
theorem AOps.storeL {i off j m k : Nat} {T : TypeId} {v : AV} {A row l new : List AV} (hs : ∀ w, (sizeOf t).run P w = .ok m w) (hx : aev env x = .po i off) (hoff : off = A.length + j) (hy : aev env y = v) (hv : v.sto = true) (hl : v.cs = l) (hl1 : l.all AV.cell = true) (hn : l.length = m)
  (hO : Put O i (.grow k T (A ++ row)) (.grow k T (A ++ new)) O') (hb : Nat.ble (j + m) row.length = true) (hm : Nat.ble 1 m = true) (hnew : row.take j ++ l ++ row.drop (j + m) = new) (kk : AOps P E ops K rest env O') : AOps P E ops K (Oper.mk none (.store t x y) ty pos af none :: rest) env O :=
 AOps.storeG hs hx hy hv hl hl1 hn hO (by have := Nat.le_of_ble_eq_true hb; rw [qw]; omega) (Nat.le_of_ble_eq_true hm) (by
  have := Nat.le_of_ble_eq_true hb
  subst hoff hnew
  rw [List.take_append, List.take_of_length_le (by omega : A.length ≤ A.length + j), Nat.add_sub_cancel_left, List.drop_append, List.drop_eq_nil_of_le (by omega : A.length ≤ A.length + j + m), Nat.add_assoc, Nat.add_sub_cancel_left]
  simp) kk
theorem Gv.idxOL {i n k j r : Nat} {a : Int} {T : TypeId} {cs : List AV} (ht : P.underlying t = some (.slice e)) (hs : ∀ w, (sizeOf e).run P w = .ok k w) (hx : aev env x = .own i n) (hy : aev env y = .int .i64 a) (hi : a = (j : Int)) (hO : Has O i (.grow k T cs)) (hne : cs ≠ []) (hj : j < n) (hr : j * k = r) :
  Gv P env O (Oper.mk (some d) (.indexAddr t x y) ty pos af none) (.po i r) := hr ▸ Gv.idxO ht hs hx hy hi hO hne hj
theorem GStep.eq (h : O = O') : GStep E env O env O' := fun I F ρ w h1 h2 => ⟨I, .refl _, h1, h ▸ h2⟩
end
section
variable {P : Program} {E : World} {l : List Oper} {W : Nat → Bool} {fuel : Nat} {listed : Array Bool} {d ty : Nat} {op : Op} {pos : String} {af : Array Edge}
end
theorem GStep.knowP {E : World} {env : AEnv} {O O' : OL} {t i : Nat} {T : TypeId} {cs : List AV} (hv : env t = .po i 0) (hO : Pick O i (.cells T cs) O') : GStep E env O (aupd env t (.pf cs)) O' := fun I F ρ w h1 ⟨ht, L, hL, hS⟩ => by
 obtain ⟨A, B, hp, ⟨b, c, vs, e1, hvs, hvc, rfl⟩, hB⟩ := hO.rep hL
 simp only at e1
 have hS2 : SL I.k ((b, .cells vs.toArray T (0, 0)) :: (B ++ F)) E w := hS.perm ((hp.append_right F).symm)
 obtain ⟨hl, hS3⟩ := SL.freeze hS2
 let J : G := ⟨I.k.put b (.cells vs.toArray T (0, 0)), I.h⟩
 have hle : I.le J := ⟨hl, fun _ _ h => h⟩
 refine ⟨J, hle, fun s=>?_, ht, B, hB.mono hle, hS3⟩
 unfold aupd
 cases hb : Nat.beq s t with
 | false => exact qi hle _ _ (h1 s)
 | true =>
  have : s = t := Nat.eq_of_beq_eq_true hb
  subst this
  have h2 := h1 s
  rw [hv] at h2
  obtain ⟨b2, c2, e2, e3⟩ := h2
  rw [e1] at e2
  simp only [Option.some.injEq, Prod.mk.injEq] at e2
  obtain ⟨rfl, rfl⟩ := e2
  exact ⟨b, 0, vs, e3, qe hle _ _ hvs, fun j u hj => ⟨_, _, _, Ghost.put_same _ _ _, by rw [Nat.zero_add, List.getElem?_toArray]; exact hj⟩⟩
end Go.Proofs.YtiojekbkamegdaaGreatDoor
namespace Go.Proofs.YtiojekbkamegdaaGreatDoor
open Go.Proofs.Tryz
section
variable {E : World} {P : Program} {ops : Array Oper} {K : AEnv → OL → Prop} {env : AEnv} {O O' : OL} {rest : List Oper}
variable {d ty : Nat} {pos : String} {af : Array Edge} {x y z : Operand} {t u e : TypeId}
end
end Go.Proofs.YtiojekbkamegdaaGreatDoor
namespace Go.Proofs.YtiojekbkamegdaaGreatDoor
open Go.Proofs.Tryz
section
variable {P : Program} {env : AEnv} {O : OL}
variable {d ty : Nat} {pos : String} {af : Array Edge} {x y : Operand}
theorem Gv.minI {ts : Array TypeId} {k : IntKind} {a b : Int} (hx : aev env x = .int k a) (hy : aev env y = .int k b) : Gv P env O (Oper.mk (some d) (.call { callee := .builtin .min, args := #[x, y], argTypes := ts }) ty pos af none) (.int k (if b < a then b else a)) := Gv.ofEv fun I ρ h => ⟨_, rfl, fun w => by
 simp [execOp, resolve, evI h hx, evI h hy, invoke, builtin, Builtin.min_, Builtin.min2, Result.andThen]⟩
end
end Go.Proofs.YtiojekbkamegdaaGreatDoor
namespace Go.Proofs.YtiojekbkamegdaaGreatDoor
open Go.Proofs.Tryz
open Go.Lib
section
variable {P : Program} {ops : Array Oper} {K : Env → World → Prop} {ρ : Env} {w : World} {rest : List Oper}
variable {d ty : Nat} {pos : String} {af : Array Edge} {x y z : Operand} {t u e : TypeId}
variable {I : Ghost} {O A : List (Nat × Obj)} {E : World}
end
section
variable {E : World} {P : Program} {ops : Array Oper} {K : AEnv → OL → Prop} {env : AEnv} {O O' : OL} {rest : List Oper}
variable {d ty : Nat} {pos : String} {af : Array Edge} {x y z : Operand} {t u e : TypeId}
end
section
variable {E : World} {P : Program} {env : AEnv} {O : OL} {d ty : Nat} {pos : String} {af : Array Edge} {t e kt : TypeId} {x y : Operand} {b i : Nat} {es : List (ByteArray × Int)}
theorem Gv.lookup1S {s : ByteArray} (ht : P.underlying t = some (.map kt e)) (hk : P.underlying kt = some .string) (hz : ∀ w, (zeroValue e).run P w = .ok (.int .i64 0) w) (hx : aev env x = mref b) (hy : aev env y = .str s) (hO : Has O i (mapO b es)) :
  Gv P env O (Oper.mk (some d) (.lookup t x y false) ty pos af none) (.int .i64 ((mget s es).getD 0)) := fun I L E ρ h1 hL => by
 obtain ⟨arr, clock, hm, he⟩ := map_in hO hL
 have hx := evRaw h1 hx
 have hy := evT h1 hy
 refine ⟨.int .i64 ((mget s es).getD 0), Z, fun w J L' hl hS hin => ?_⟩
 have hb := hS.own _ (hin _ hm)
 simp only at hb
 have hc : (Instr.checkKey arr.isEmpty 10000 kt (.string s)).run P w = .ok () w := MapKept.run_checkKey (k := .string s) hk (by simp [MapKept.IsKey]) _ 9999
 cases hg : mget s es with
 | none =>
  have hf := findNow_none (i := 0) he hg
  simp [execOp, Instr.lookup, run_underlying ht, hx, hy, MapKept.run_getObj_map hb, hc, MapKept.run_findKey hk hf, hz, Result.andThen]
 | some u =>
  obtain ⟨j, hf, _⟩ := findNow_some (i := 0) he hg
  simp [execOp, Instr.lookup, run_underlying ht, hx, hy, MapKept.run_getObj_map hb, hc, MapKept.run_findKey hk hf, Result.andThen]
end
theorem mget_set (s v : ByteArray) (n : Int) : ∀ es : List (ByteArray × Int), mget s (mset v n es) = if s = v then some n else mget s es
 | [] => by simp only [mset, mget]
 | (k, u) :: es => by
  simp only [mset]
  split
  ·rename_i h; subst h; simp only [mget]; split <;> rfl
  ·rename_i h
   simp only [mget, mget_set s v n es]
   split
   ·rename_i h2; subst h2; rw [if_neg (fun e => h e.symm)]
   ·rfl
end Go.Proofs.YtiojekbkamegdaaGreatDoor
namespace Go.Proofs.YtiojekbkamegdaaGreatDoor
open Go.Proofs.Tryz
open Go.Proofs Go.Lib Go.Shelf Go.RowKit
set_option maxRecDepth 20000
variable {E : World}
def tyWord (t : Int) : ByteArray := if t = 0 then ⟨#[105, 110, 116]⟩ else if t = 1 then ⟨#[98, 111, 111, 108]⟩ else if t = 2 then ⟨#[97, 114, 114]⟩ else ⟨#[]⟩
theorem strL_of (s : ByteArray) : strL s.data.toList = s := by unfold strL; simp
def nameR : List Int → Bool
 | [] => false
 | c :: rs => letterC c && (rs.all innerC && decide (rs.length + 1 ≤ 16))
theorem letter_inner {c : Int} (h : letterC c = true) : innerC c = true := by unfold innerC; rw [h]; rfl
theorem nmGo_pos (s : ByteArray) : ∀ (n p : Nat), s.size - p ≤ n → 0 < p → p ≤ s.size → nmGo s p = ((runesFrom s p).all innerC && decide ((runesFrom s 0).length ≤ 16)) := by
 intro n
 induction n with
 | zero =>
  intro p h hp hps
  have hne : ¬ s = ⟨#[]⟩ := fun e => by subst e; have : p ≤ 0 := hps; omega
  rw [nmGo, dif_neg (by omega), runesFrom_ge (p := p) (by omega)]
  simp [hne]; omega
 | succ n ih =>
  intro p h hp hps
  by_cases hlt : p < s.size
  ·have hd := (decode_ok s p).1
   have hw : p + (Utf8.decode s p).2 ≤ s.size := by
    have := decodeL_le (s.data.toList.drop p) (by intro e; have := congrArg List.length e; rw [List.length_drop] at this; have h2 : s.data.toList.length = s.size := Array.length_toList; simp only [List.length_nil] at this; omega)
    rw [decodeL_drop, List.length_drop] at this
    have h2 : s.data.toList.length = s.size := Array.length_toList
    omega
   rw [nmGo, dif_pos hlt, runesFrom_lt hlt, List.all_cons]
   have hp0 : decide (p = 0) = false := w5 (by omega)
   rw [hp0, Bool.false_and, Bool.false_or]
   cases hi : innerC ((Utf8.decode s p).1 : Int) with
   | false => simp
   | true => rw [if_neg (by simp), ih _ (by omega) (by omega) hw]; simp
  ·have hne : ¬ s = ⟨#[]⟩ := fun e => by subst e; have : p ≤ 0 := hps; omega
   rw [nmGo, dif_neg hlt, runesFrom_ge (p := p) hlt]
   simp [hne]; omega
theorem step_le {s : ByteArray} {p : Nat} (hlt : p < s.size) : p + (Utf8.decode s p).2 ≤ s.size := by
 have h2 : s.data.toList.length = s.size := Array.length_toList
 have := decodeL_le (s.data.toList.drop p) (by intro e; have := congrArg List.length e; rw [List.length_drop] at this; simp only [List.length_nil] at this; omega)
 rw [decodeL_drop, List.length_drop] at this
 omega
theorem scanName_R (s : ByteArray) : scanName s = nameR (runesFrom s 0) := by
 unfold scanName
 by_cases hlt : 0 < s.size
 ·have hd := (decode_ok s 0).1
  have hw := step_le hlt
  have hr := runesFrom_lt hlt
  have hl := congrArg List.length hr
  rw [List.length_cons] at hl
  rw [nmGo, dif_pos hlt]
  have h2 : nameR (runesFrom s 0) = (letterC ((Utf8.decode s 0).1 : Int) && ((runesFrom s (0 + (Utf8.decode s 0).2)).all innerC && decide ((runesFrom s (0 + (Utf8.decode s 0).2)).length + 1 ≤ 16))) := by rw [hr]; rfl
  rw [h2]
  cases hc : letterC ((Utf8.decode s 0).1 : Int) with
  | false => simp
  | true =>
   rw [letter_inner hc, if_neg (by simp), nmGo_pos s _ _ (Nat.le_refl _) (by omega) hw, hl]; rfl
 ·rw [nmGo, dif_neg hlt, runesFrom_ge hlt]
  have : s = ⟨#[]⟩ := by
   have h2 : s.data.toList.length = s.size := Array.length_toList
   have h3 : s.data.toList = [] := List.eq_nil_of_length_eq_zero (by omega)
   rw [← strL_of s, h3]; rfl
  simp [this, nameR]
theorem cnt_end (k : Nat) : (decide ((1 : Int) ≤ ((k + 1 : Nat) : Int)) && decide (((k + 1 : Nat) : Int) ≤ 16)) = (([] : List Int).all innerC && decide (k + 1 + ([] : List Int).length ≤ 16)) := by
 rw [w4 (by omega), Bool.true_and]
 show _ = (true && _)
 rw [Bool.true_and, decide_eq_decide]
 show ((k + 1 : Nat) : Int) ≤ 16 ↔ k + 1 + 0 ≤ 16
 omega
theorem nameFrom_pos (s : ByteArray) : ∀ (n p k : Nat), s.size - p ≤ n → nameFrom s p (k + 1) = ((runesFrom s p).all innerC && decide (k + 1 + (runesFrom s p).length ≤ 16)) := by
 intro n
 induction n with
 | zero =>
  intro p k h
  rw [nameFrom, dif_neg (by omega), runesFrom_ge (by omega)]
  exact cnt_end k
 | succ n ih =>
  intro p k h
  by_cases hlt : p < s.size
  ·have hd := (decode_ok s p).1
   rw [nameFrom, dif_pos hlt, runesFrom_lt hlt, List.all_cons]
   have ho : okRune ((Utf8.decode s p).1 : Int) (k + 1) = innerC ((Utf8.decode s p).1 : Int) := by
    unfold okRune innerC letterC digitC
    have : decide (((k + 1 : Nat) : Int) = 0) = false := w5 (by omega)
    rw [this]; simp [Bool.or_assoc]
   rw [ho]
   cases hi : innerC ((Utf8.decode s p).1 : Int) with
   | false => simp
   | true => rw [if_pos rfl, ih _ _ (by omega), Bool.true_and, List.length_cons]; congr 2; simp; omega
  ·rw [nameFrom, dif_neg hlt, runesFrom_ge hlt]
   exact cnt_end k
theorem nameB_R (s : ByteArray) : nameB s = nameR (runesFrom s 0) := by
 unfold nameB
 by_cases hlt : 0 < s.size
 ·rw [nameFrom, dif_pos hlt, runesFrom_lt hlt]
  have ho : okRune ((Utf8.decode s 0).1 : Int) 0 = letterC ((Utf8.decode s 0).1 : Int) := by unfold okRune letterC; simp
  rw [ho]
  show _ = (letterC ((Utf8.decode s 0).1 : Int) && _)
  cases hc : letterC ((Utf8.decode s 0).1 : Int) with
  | false => simp
  | true => rw [if_pos rfl, nameFrom_pos s _ _ _ (Nat.le_refl _), Bool.true_and]; congr 2; simp; omega
 ·rw [nameFrom, dif_neg hlt, runesFrom_ge hlt]; rfl
theorem name_eq (s : ByteArray) : nameB s = scanName s := by rw [nameB_R, scanName_R]
structure InstF (f : PFunc) (x : PInst) : Prop where
 op : 0 ≤ x.op ∧ x.op ≤ 26
 len : x.args.length = (takesL x.op).length
 dst : (makesB x.op = false ∧ x.dst = -1) ∨ (makesB x.op = true ∧ x.dst ≠ -1 ∧ hasV f x.dst = true)
 num : isNum x.op = false → x.num = 0
 args : ∀ a ∈ x.args, hasV f a = true
theorem instP_F {f : PFunc} {x : PInst} (h : InstP f x) : InstF f x := by
 obtain ⟨h1, h2, h3, h4⟩ := h
 have hw := wordB_num ⟨h1, h2⟩
 unfold bad2 at h3
 simp only [Bool.or_eq_false_iff, Bool.not_eq_false', w9, Bool.and_eq_false_iff, beq_iff_eq] at h3
 obtain ⟨g1, g2, g3, g4⟩ := h3
 refine ⟨⟨h1, h2⟩, by rw [takes_len]; omega, ?_, fun hn=>?_, List.all_eq_true.1 h4⟩
 ·rw [makesB_eq]
  by_cases hd : x.dst = -1
  ·left
   rw [w4 hd] at g2
   exact ⟨by rw [g2]; rfl, hd⟩
  ·right
   rw [w5 hd] at g2
   refine ⟨by rw [g2]; rfl, hd, ?_⟩
   rcases g3 with g | g
   ·exact absurd g hd
   ·exact g
 ·rcases g4 with g | g
  ·exact g
  ·rw [hw, hn] at g; cases g
theorem tyWord_spec (t : Int) : AFun prog E 254 [.int .i64 t] (.str (tyWord t)) := by
 refine zp func254 Z (by decide) Z<|zSr<|z8 (qf (v := .str _) Z)<|z2<|zc<|zSr<|zVzMi Z<|z2<|zi<|zSr<|zVGveqlI Z Z<|zVzAb Z<|z2<|zu Z (fun c1=>?_) (fun c1=>?_)
 ·refine zSr<|z8 (qf (v := .str _) Z)<|z2<|zj<|zk (x := .str _) Z ?_
  exact congrArg AV.str (by simp_all [tyWord])
 ·refine zSr<|zVGveqlI Z Z<|zVzAb Z<|z2<|zu Z (fun c2=>?_) (fun c2=>?_)
  ·refine zSr<|z8 (qf (v := .str _) Z)<|z2<|zj<|zk (x := .str _) Z ?_
   exact congrArg AV.str (by simp_all [tyWord])
  ·refine zSr<|zVGveqlI Z Z<|zVzAb Z<|z2<|zu Z (fun c3=>?_) (fun c3=>?_)
   ·refine zSr<|z8 (qf (v := .str _) Z)<|z2<|zj<|zk (x := .str _) Z ?_
    exact congrArg AV.str (by simp_all [tyWord])
   ·refine zf<|zSr<|z8 (qf (v := .str _) Z)<|z2<|zj<|zk (x := .str _) Z ?_
    exact congrArg AV.str (by simp_all [tyWord])
end Go.Proofs.YtiojekbkamegdaaGreatDoor
namespace Go.Proofs.YtiojekbkamegdaaGreatDoor
open Go.Proofs.Tryz
inductive Way (S : Int → List Int) (p : Int → Prop) (r : Int) : Int → Prop
 | refl : p r → Way S p r r
 | step {b c} : Way S p r b → c ∈ S b → p c → Way S p r c
theorem Way.end_ {S : Int → List Int} {p : Int → Prop} {r b : Int} (h : Way S p r b) : p b := by cases h <;> assumption
theorem Way.start {S : Int → List Int} {p : Int → Prop} {r b : Int} (h : Way S p r b) : p r := by induction h <;> assumption
theorem Way.mono {S : Int → List Int} {p q : Int → Prop} {r b : Int} (hpq : ∀ x, p x → q x) (h : Way S p r b) : Way S q r b := by
 induction h with
 | refl h => exact .refl (hpq _ h)
 | step _ h1 h2 ih => exact .step ih h1 (hpq _ h2)
theorem Way.trans {S : Int → List Int} {p : Int → Prop} {r b c : Int} (h : Way S p r b) (k : Way S p b c) : Way S p r c := by
 induction k with
 | refl _ => exact h
 | step _ h1 h2 ih => exact .step ih h1 h2
theorem Way.self {S : Int → List Int} {p : Int → Prop} {r b : Int} (h : Way S p r b) : Way S (fun x => p x ∧ Way S p r x) r b := by
 induction h with
 | refl h => exact .refl ⟨h, .refl h⟩
 | step h0 h1 h2 ih => exact .step ih h1 ⟨h2, .step h0 h1 h2⟩
theorem Way.last {S : Int → List Int} {p : Int → Prop} {r b : Int} (h : Way S p r b) : b = r ∨ ∃ c, c ∈ S r ∧ Way S (fun x => p x ∧ x ≠ r) c b := by
 induction h with
 | refl h => exact .inl rfl
 | @step b c h0 h1 h2 ih =>
  by_cases hc : c = r
  ·exact .inl hc
  ·right
   rcases ih with rfl | ⟨d, hd, hw⟩
   ·exact ⟨c, h1, .refl ⟨h2, hc⟩⟩
   ·exact ⟨d, hd, .step hw h1 ⟨h2, hc⟩⟩
inductive WayB (S : Int → List Int) (at_ : Int → Int) (p : Int → Prop) (r : Int) : Nat → Int → Prop
 | refl {k} : p r → WayB S at_ p r k r
 | fwd {k b c} : WayB S at_ p r k b → c ∈ S b → at_ b < at_ c → p c → WayB S at_ p r k c
 | back {k b c} : WayB S at_ p r k b → c ∈ S b → p c → WayB S at_ p r (k + 1) c
theorem WayB.end_ {S : Int → List Int} {at_ : Int → Int} {p : Int → Prop} {r b : Int} {k : Nat} (h : WayB S at_ p r k b) : p b := by cases h <;> assumption
theorem WayB.way {S : Int → List Int} {at_ : Int → Int} {p : Int → Prop} {r b : Int} {k : Nat} (h : WayB S at_ p r k b) : Way S p r b := by
 induction h with
 | refl h => exact .refl h
 | fwd _ h1 _ h2 ih => exact .step ih h1 h2
 | back _ h1 h2 ih => exact .step ih h1 h2
theorem WayB.ahead {S : Int → List Int} {at_ : Int → Int} {p q : Int → Prop} {r c b : Int} {k : Nat} (h : WayB S at_ q c k b) (hqp : ∀ x, q x → p x) (hr : p r) (hc : c ∈ S r) : WayB S at_ p r (k + 1) b := by
 induction h with
 | refl h => exact .back (.refl hr) hc (hqp _ h)
 | fwd _ h1 h2 h3 ih => exact .fwd ih h1 h2 (hqp _ h3)
 | back _ h1 h2 ih => exact .back ih h1 (hqp _ h2)
theorem Way.short {S : Int → List Int} (at_ : Int → Int) : ∀ (n : Nat) (V : List Int) (p : Int → Prop) (r b : Int), V.length = n → (∀ x, p x → x ∈ V) → Way S p r b → ∃ k, k + 1 ≤ n ∧ WayB S at_ p r k b
 | 0, V, p, r, b, hl, hV, h => by
  have := hV _ h.start
  rw [List.eq_nil_of_length_eq_zero hl] at this; cases this
 | n + 1, V, p, r, b, hl, hV, h => by
  rcases h.last with rfl | ⟨c, hc, hw⟩
  ·exact ⟨0, by omega, .refl h.start⟩
  ·have hr := hV _ h.start
   obtain ⟨k, hk, hb⟩ := Way.short at_ n (V.erase r) (fun x => p x ∧ x ≠ r) c b (by rw [List.length_erase_of_mem hr, hl]; rfl) (fun x hx => (List.mem_erase_of_ne hx.2).2 (hV x hx.1)) hw
   exact ⟨k + 1, by omega, hb.ahead (fun x hx => hx.1) h.start hc⟩
def Rch (S : Int → List Int) (b : Int) : Prop := Way S (fun _ => True) 0 b
def Dom (S : Int → List Int) (a b : Int) : Prop := Rch S b ∧ ¬ Way S (fun x => x ≠ a) 0 b
section
variable {S : Int → List Int}
theorem Dom.refl {b : Int} (h : Rch S b) : Dom S b b := ⟨h, fun hw => hw.end_ rfl⟩
theorem Dom.root {b : Int} (h : Rch S b) : Dom S 0 b := ⟨h, fun hw => hw.start rfl⟩
theorem Dom.rch {a b : Int} (h : Dom S a b) : Rch S a := by
 refine Classical.byContradiction fun hn => h.2 ?_
 exact (Way.self h.1).mono fun x hx e => hn (e ▸ hx.2)
theorem Dom.trans {a b c : Int} (h : Dom S a b) (k : Dom S b c) : Dom S a c := by
 refine ⟨k.1, fun hw=>?_⟩
 refine k.2<|hw.self.mono fun x hx e => ?_
 subst e
 exact h.2 hx.2
theorem Dom.pred {a b p : Int} (h : Dom S a b) (hp : Rch S p) (he : b ∈ S p) (hab : a ≠ b) : Dom S a p :=
 ⟨hp, fun hw => h.2 (.step hw he (fun e => hab e.symm))⟩
theorem Dom.of_preds {a b : Int} (hb : Rch S b) (h0 : b ≠ 0) (h : ∀ p, Rch S p → b ∈ S p → Dom S a p) : Dom S a b := by
 refine ⟨hb, fun hw=>?_⟩
 cases hw with
 | refl _ => exact h0 rfl
 | step h1 h2 h3 => exact (h _ (h1.mono fun _ _ => trivial) h2).2 h1
end
inductive Anc (N : Int → Int) : Int → Int → Prop
 | refl (x) : Anc N x x
 | up {x a} : x ≠ 0 → N x ≠ -1 → Anc N (N x) a → Anc N x a
theorem Anc.trans {N : Int → Int} {x y z : Int} (h : Anc N x y) (k : Anc N y z) : Anc N x z := by
 induction h with
 | refl => exact k
 | up h1 h2 _ ih => exact .up h1 h2 (ih k)
theorem Anc.cases' {N : Int → Int} {x a : Int} (h : Anc N x a) : a = x ∨ (x ≠ 0 ∧ N x ≠ -1 ∧ Anc N (N x) a) := by
 cases h with
 | refl => exact .inl rfl
 | up h1 h2 h3 => exact .inr ⟨h1, h2, h3⟩
structure Ord (S : Int → List Int) (at_ : Int → Int) (V : List Int) : Prop where
 mem : ∀ b, b ∈ V ↔ Rch S b
 pos : ∀ b, b ∈ V ↔ 0 ≤ at_ b
 inj : ∀ a b, a ∈ V → b ∈ V → at_ a = at_ b → a = b
 zero : at_ 0 = 0
 fwd : ∀ b, b ∈ V → b ≠ 0 → ∃ p, p ∈ V ∧ b ∈ S p ∧ at_ p < at_ b
 none : ∀ b, b ∉ V → at_ b = -1
 nn : ∀ b, b ∈ V → 0 ≤ b
structure NInv (S : Int → List Int) (at_ : Int → Int) (V : List Int) (N : Int → Int) : Prop where
 zero : N 0 = 0
 mem : ∀ b, N b ≠ -1 → b ∈ V
 near : ∀ b, b ≠ 0 → N b ≠ -1 → N b ∈ V ∧ N (N b) ≠ -1 ∧ at_ (N b) < at_ b
 path : ∀ b, b ≠ 0 → N b ≠ -1 → Way S (fun x => at_ (N b) ≤ at_ x) (N b) b
 dom : ∀ b d, N b ≠ -1 → Dom S d b → Anc N b d
section
variable {S : Int → List Int} {at_ : Int → Int} {V : List Int} {N : Int → Int}
theorem Ord.zmem (hV : Ord S at_ V) : (0 : Int) ∈ V := (hV.mem 0).2 (.refl trivial)
theorem NInv.anc (hN : NInv S at_ V N) {x a : Int} (hx : N x ≠ -1) (h : Anc N x a) : N a ≠ -1 ∧ at_ a ≤ at_ x ∧ Way S (fun y => at_ a ≤ at_ y) a x := by
 induction h with
 | refl x => exact ⟨hx, Int.le_refl _, .refl (Int.le_refl _)⟩
 | @up x a h1 h2 h3 ih =>
  obtain ⟨g1, g2, g3⟩ := hN.near x h1 h2
  obtain ⟨i1, i2, i3⟩ := ih g2
  refine ⟨i1, by omega, i3.trans ((hN.path x h1 h2).mono fun y hy => by omega)⟩
theorem NInv.antisymm (hV : Ord S at_ V) (hN : NInv S at_ V N) {x a : Int} (hx : N x ≠ -1) (h : Anc N x a) (e : at_ x ≤ at_ a) : a = x := by
 rcases h.cases' with h | ⟨h1, h2, h3⟩
 ·exact h
 ·have g := hN.near x h1 h2
  have := (hN.anc g.2.1 h3).2.1
  omega
theorem NInv.root (hV : Ord S at_ V) (hN : NInv S at_ V N) : ∀ {x : Int}, N x ≠ -1 → Anc N x 0 := fun {x} hx => hN.dom x 0 hx (Dom.root ((hV.mem x).1 (hN.mem x hx)))
def meetF (N at_ : Int → Int) : Nat → Int → Int → Int
 | 0, a, _ => a
 | k + 1, a, b => if a = b then a else if at_ b < at_ a then meetF N at_ k (N a) b else meetF N at_ k a (N b)
theorem meet_anc (hV : Ord S at_ V) (hN : NInv S at_ V N) : ∀ (k : Nat) (a b : Int), N a ≠ -1 → N b ≠ -1 → at_ a + at_ b < k → N (meetF N at_ k a b) ≠ -1 ∧ ∀ x, Anc N (meetF N at_ k a b) x ↔ Anc N a x ∧ Anc N b x
 | 0, a, b, ha, hb, hk => by
  have h1 := (hV.pos a).1 (hN.mem a ha)
  have h2 := (hV.pos b).1 (hN.mem b hb)
  exact absurd hk (by omega)
 | k + 1, a, b, ha, hb, hk => by
  have h1 := (hV.pos a).1 (hN.mem a ha)
  have h2 := (hV.pos b).1 (hN.mem b hb)
  unfold meetF
  by_cases hab : a = b
  ·rw [if_pos hab]; subst hab; exact ⟨ha, fun x => ⟨fun h => ⟨h, h⟩, fun h => h.1⟩⟩
  ·rw [if_neg hab]
   by_cases hlt : at_ b < at_ a
   ·rw [if_pos hlt]
    have ha0 : a ≠ 0 := fun e => by rw [e, hV.zero] at hlt; omega
    obtain ⟨g1, g2, g3⟩ := hN.near a ha0 ha
    obtain ⟨i1, i2⟩ := meet_anc hV hN k (N a) b g2 hb (by omega)
    refine ⟨i1, fun x => (i2 x).trans ⟨fun h => ⟨.up ha0 ha h.1, h.2⟩, fun h => ⟨?_, h.2⟩⟩⟩
    rcases h.1.cases' with rfl | ⟨_, _, h3⟩
    ·have := (hN.anc hb h.2).2.1; omega
    ·exact h3
   ·rw [if_neg hlt]
    have hlt2 : at_ a < at_ b := by
     have : at_ a ≠ at_ b := fun e => hab (hV.inj a b (hN.mem a ha) (hN.mem b hb) e)
     omega
    have hb0 : b ≠ 0 := fun e => by rw [e, hV.zero] at hlt2; omega
    obtain ⟨g1, g2, g3⟩ := hN.near b hb0 hb
    obtain ⟨i1, i2⟩ := meet_anc hV hN k a (N b) ha g2 (by omega)
    refine ⟨i1, fun x => (i2 x).trans ⟨fun h => ⟨h.1, .up hb0 hb h.2⟩, fun h => ⟨h.1, ?_⟩⟩⟩
    rcases h.2.cases' with rfl | ⟨_, _, h3⟩
    ·have := (hN.anc ha h.1).2.1; omega
    ·exact h3
theorem meet_more (hV : Ord S at_ V) (hN : NInv S at_ V N) : ∀ (k j : Nat) (a b : Int), N a ≠ -1 → N b ≠ -1 → at_ a + at_ b < k → k ≤ j → meetF N at_ j a b = meetF N at_ k a b
 | 0, j, a, b, ha, hb, hk, _ => by
  have h1 := (hV.pos a).1 (hN.mem a ha)
  have h2 := (hV.pos b).1 (hN.mem b hb)
  exact absurd hk (by omega)
 | k + 1, 0, _, _, _, _, _, hj => by omega
 | k + 1, j + 1, a, b, ha, hb, hk, hj => by
  have h1 := (hV.pos a).1 (hN.mem a ha)
  have h2 := (hV.pos b).1 (hN.mem b hb)
  unfold meetF
  by_cases hab : a = b
  ·rw [if_pos hab, if_pos hab]
  ·rw [if_neg hab, if_neg hab]
   by_cases hlt : at_ b < at_ a
   ·rw [if_pos hlt, if_pos hlt]
    have ha0 : a ≠ 0 := fun e => by rw [e, hV.zero] at hlt; omega
    obtain ⟨g1, g2, g3⟩ := hN.near a ha0 ha
    exact meet_more hV hN k j (N a) b g2 hb (by omega) (by omega)
   ·rw [if_neg hlt, if_neg hlt]
    have hlt2 : at_ a < at_ b := by
     have : at_ a ≠ at_ b := fun e => hab (hV.inj a b (hN.mem a ha) (hN.mem b hb) e)
     omega
    have hb0 : b ≠ 0 := fun e => by rw [e, hV.zero] at hlt2; omega
    obtain ⟨g1, g2, g3⟩ := hN.near b hb0 hb
    exact meet_more hV hN k j a (N b) ha g2 (by omega) (by omega)
def bestF (N at_ : Int → Int) (K : Nat) : List Int → Int → Int
 | [], m => m
 | p :: ps, m => bestF N at_ K ps (if at_ p = -1 ∨ N p = -1 then m else if m = -1 then p else meetF N at_ K m p)
theorem best_anc (hV : Ord S at_ V) (hN : NInv S at_ V N) {K : Nat} (hK : ∀ a b, a ∈ V → b ∈ V → at_ a + at_ b < K) : ∀ (ps : List Int) (m : Int), N m ≠ -1 → 
  N (bestF N at_ K ps m) ≠ -1 ∧ ∀ x, Anc N (bestF N at_ K ps m) x ↔ Anc N m x ∧ ∀ p ∈ ps, N p ≠ -1 → Anc N p x
 | [], m, hm => ⟨hm, fun x => by simp [bestF]⟩
 | p :: ps, m, hm => by
  unfold bestF
  by_cases hp : at_ p = -1 ∨ N p = -1
  ·rw [if_pos hp]
   have hp1 : N p = -1 := by
    rcases hp with hp | hp
    ·exact Classical.byContradiction fun h => by have := (hV.pos p).1 (hN.mem p h); omega
    ·exact hp
   obtain ⟨i1, i2⟩ := best_anc hV hN hK ps m hm
   refine ⟨i1, fun x => (i2 x).trans ⟨fun h => ⟨h.1, fun q hq hqn => ?_⟩, fun h => ⟨h.1, fun q hq => h.2 q (.tail _ hq)⟩⟩⟩
   rcases List.mem_cons.1 hq with rfl | hq
   ·exact absurd hp1 hqn
   ·exact h.2 q hq hqn
  ·rw [if_neg hp]
   have hp1 : N p ≠ -1 := fun e => hp (.inr e)
   have hm0 : m ≠ -1 := fun e => by
    have h1 := hV.nn m (hN.mem m hm)
    omega
   rw [if_neg hm0]
   obtain ⟨j1, j2⟩ := meet_anc hV hN K m p hm hp1 (hK _ _ (hN.mem _ hm) (hN.mem _ hp1))
   obtain ⟨i1, i2⟩ := best_anc hV hN hK ps _ j1
   refine ⟨i1, fun x => (i2 x).trans ⟨fun h => ⟨((j2 x).1 h.1).1, fun q hq hqn => ?_⟩, fun h => ⟨(j2 x).2 ⟨h.1, h.2 p (.head _) hp1⟩, fun q hq => h.2 q (.tail _ hq)⟩⟩⟩
   rcases List.mem_cons.1 hq with rfl | hq
   ·exact ((j2 x).1 h.1).2
   ·exact h.2 q hq hqn
theorem best_none (hV : Ord S at_ V) (hN : NInv S at_ V N) {K : Nat} (hK : ∀ a b, a ∈ V → b ∈ V → at_ a + at_ b < K) : ∀ (ps : List Int), (∃ p ∈ ps, N p ≠ -1) →
  N (bestF N at_ K ps (-1)) ≠ -1 ∧ ∀ x, Anc N (bestF N at_ K ps (-1)) x ↔ ∀ p ∈ ps, N p ≠ -1 → Anc N p x
 | [], h => by obtain ⟨_, h, _⟩ := h; cases h
 | p :: ps, h => by
  unfold bestF
  by_cases hp : at_ p = -1 ∨ N p = -1
  ·rw [if_pos hp]
   have hp1 : N p = -1 := by
    rcases hp with hp | hp
    ·exact Classical.byContradiction fun h => by have := (hV.pos p).1 (hN.mem p h); omega
    ·exact hp
   obtain ⟨i1, i2⟩ := best_none hV hN hK ps (by
    obtain ⟨q, hq, hqn⟩ := h
    rcases List.mem_cons.1 hq with rfl | hq
    ·exact absurd hp1 hqn
    ·exact ⟨q, hq, hqn⟩)
   refine ⟨i1, fun x => (i2 x).trans ⟨fun h q hq hqn => ?_, fun h q hq => h q (.tail _ hq)⟩⟩
   rcases List.mem_cons.1 hq with rfl | hq
   ·exact absurd hp1 hqn
   ·exact h q hq hqn
  ·rw [if_neg hp, if_pos rfl]
   have hp1 : N p ≠ -1 := fun e => hp (.inr e)
   obtain ⟨i1, i2⟩ := best_anc hV hN hK ps p hp1
   refine ⟨i1, fun x => (i2 x).trans ⟨fun h q hq hqn => ?_, fun h => ⟨h p (.head _) hp1, fun q hq => h q (.tail _ hq)⟩⟩⟩
   rcases List.mem_cons.1 hq with rfl | hq
   ·exact h.1
   ·exact h.2 q hq hqn
def setN (N : Int → Int) (b m : Int) : Int → Int := fun x => if x = b then m else N x
theorem setN_same (N : Int → Int) (b m : Int) : setN N b m b = m := by simp [setN]
theorem setN_ne {N : Int → Int} {b m x : Int} (h : x ≠ b) : setN N b m x = N x := by simp [setN, h]
structure Meets (S : Int → List Int) (at_ : Int → Int) (V : List Int) (N : Int → Int) (b m : Int) : Prop where
 mem : b ∈ V
 ne : b ≠ 0
 has : N m ≠ -1
 anc : ∀ x, Anc N m x ↔ ∀ p, b ∈ S p → N p ≠ -1 → Anc N p x
 fwd : ∃ p, b ∈ S p ∧ N p ≠ -1 ∧ at_ p < at_ b
variable {b m : Int}
theorem Meets.lt (hN : NInv S at_ V N) (h : Meets S at_ V N b m) : at_ m < at_ b := by
 obtain ⟨p, h1, h2, h3⟩ := h.fwd
 have := (hN.anc h2 ((h.anc m).1 (.refl _) p h1 h2)).2.1
 omega
theorem Meets.mne (hN : NInv S at_ V N) (h : Meets S at_ V N b m) : m ≠ b := fun e => by have := h.lt hN; rw [e] at this; omega
theorem anc_low (hN : NInv S at_ V N) {x a : Int} (hx : N x ≠ -1) (hlt : at_ x < at_ b) : Anc (setN N b m) x a ↔ Anc N x a := by
 constructor
 ·intro h
  induction h with
  | refl => exact .refl _
  | @up x a h1 h2 h3 ih =>
   have hne : x ≠ b := fun e => by rw [e] at hlt; omega
   rw [setN_ne hne] at h2 h3 ih
   have := hN.near x h1 hx
   exact .up h1 hx (ih this.2.1 (by omega))
 ·intro h
  induction h with
  | refl => exact .refl _
  | @up x a h1 h2 h3 ih =>
   have hne : x ≠ b := fun e => by rw [e] at hlt; omega
   have := hN.near x h1 hx
   exact .up h1 (by rw [setN_ne hne]; exact hx) (by rw [setN_ne hne]; exact ih this.2.1 (by omega))
theorem anc_to {x a : Int} (h : Anc N x a) : Anc (setN N b m) x a ∨ (Anc (setN N b m) x b ∧ Anc N x b ∧ Anc N b a) := by
 induction h with
 | refl => exact .inl (.refl _)
 | @up x a h1 h2 h3 ih =>
  by_cases hxb : x = b
  ·subst hxb; exact .inr ⟨.refl _, .refl _, .up h1 h2 h3⟩
  ·rcases ih with h | ⟨h, h', h''⟩
   ·exact .inl (.up h1 (by rw [setN_ne hxb]; exact h2) (by rw [setN_ne hxb]; exact h))
   ·exact .inr ⟨.up h1 (by rw [setN_ne hxb]; exact h2) (by rw [setN_ne hxb]; exact h), .up h1 h2 h', h''⟩
theorem anc_from {x a : Int} (h : Anc (setN N b m) x a) : Anc N x a ∨ (Anc N x b ∧ Anc (setN N b m) b a) := by
 induction h with
 | refl => exact .inl (.refl _)
 | @up x a h1 h2 h3 ih =>
  by_cases hxb : x = b
  ·subst hxb; exact .inr ⟨.refl _, .up h1 h2 h3⟩
  ·rw [setN_ne hxb] at h2 ih
   rcases ih with h | ⟨h, h'⟩
   ·exact .inl (.up h1 h2 h)
   ·exact .inr ⟨.up h1 h2 h, h'⟩
theorem Meets.up (hV : Ord S at_ V) (hN : NInv S at_ V N) (h : Meets S at_ V N b m) {a : Int} : Anc (setN N b m) b a ↔ a = b ∨ Anc N m a := by
 have hl := h.lt hN
 have hm1 : m ≠ -1 := fun e => by have := hV.nn m (hN.mem m h.has); omega
 constructor
 ·intro ha
  rcases ha.cases' with e | ⟨_, _, h3⟩
  ·exact .inl e
  ·rw [setN_same] at h3; exact .inr ((anc_low hN h.has hl).1 h3)
 ·rintro (e | h3)
  ·subst e; exact .refl _
  ·exact .up h.ne (by rw [setN_same]; exact hm1) (by rw [setN_same]; exact (anc_low hN h.has hl).2 h3)
theorem NInv.set (hV : Ord S at_ V) (hN : NInv S at_ V N) (h : Meets S at_ V N b m) : NInv S at_ V (setN N b m) := by
 have hl := h.lt hN
 have hmb := h.mne hN
 have hm1 : m ≠ -1 := fun e => by have := hV.nn m (hN.mem m h.has); omega
 have hset : ∀ x, N x ≠ -1 → setN N b m x ≠ -1 := fun x hx => by
  unfold setN; split
  ·exact hm1
  ·exact hx
 refine ⟨by rw [setN_ne h.ne.symm]; exact hN.zero, fun x hx => ?_, fun x h0 hx => ?_, fun x h0 hx => ?_, fun x d hx hd => ?_⟩
 ·by_cases e : x = b
  ·subst e; exact h.mem
  ·rw [setN_ne e] at hx; exact hN.mem x hx
 ·by_cases e : x = b
  ·subst e; rw [setN_same]; exact ⟨hN.mem m h.has, hset m h.has, hl⟩
  ·rw [setN_ne e] at hx ⊢
   have := hN.near x h0 hx
   exact ⟨this.1, hset _ this.2.1, this.2.2⟩
 ·by_cases e : x = b
  ·subst e; rw [setN_same]
   obtain ⟨p, h1, h2, h3⟩ := h.fwd
   have := (hN.anc h2 ((h.anc m).1 (.refl _) p h1 h2)).2.2
   exact .step this h1 (by omega)
  ·rw [setN_ne e] at hx ⊢; exact hN.path x h0 hx
 ·have hb : ∀ d, Dom S d b → Anc (setN N b m) b d := fun d hd => (h.up hV hN).2 (by
   by_cases e : d = b
   ·exact .inl e
   ·exact .inr ((h.anc d).2 fun p hp hpn => hN.dom p d hpn (hd.pred ((hV.mem p).1 (hN.mem p hpn)) hp e)))
  by_cases e : x = b
  ·subst e; exact hb d hd
  ·rw [setN_ne e] at hx
   rcases anc_to (b := b) (m := m) (hN.dom x d hx hd) with h1 | ⟨h1, h2, h3⟩
   ·exact h1
   ·refine h1.trans (hb d ?_)
    have hx2 := hN.anc hx h2
    by_cases hdb : d = b
    ·subst hdb; exact .refl ((hV.mem d).1 h.mem)
    ·refine ⟨(hV.mem b).1 h.mem, fun hw=>?_⟩
     have hlt : at_ d < at_ b := by
      rcases Int.lt_or_le (at_ d) (at_ b) with g | g
      ·exact g
      ·exact absurd (hN.antisymm hV hx2.1 h3 g) hdb
     exact hd.2 (hw.trans (hx2.2.2.mono fun y hy e => by subst e; omega))
end
end Go.Proofs.YtiojekbkamegdaaGreatDoor
namespace Go.Proofs.YtiojekbkamegdaaGreatDoor
open Go.Proofs.Tryz
section
variable {S : Int → List Int} {at_ : Int → Int} {V : List Int} {N : Int → Int} {b m : Int}
theorem WayB.le {p : Int → Prop} {r x : Int} {k j : Nat} (h : WayB S at_ p r k x) (hj : k ≤ j) : WayB S at_ p r j x := by
 induction h generalizing j with
 | refl h => exact .refl h
 | fwd _ h1 h2 h3 ih => exact .fwd (ih hj) h1 h2 h3
 | back _ h1 h2 ih =>
  obtain ⟨i, rfl⟩ : ∃ i, j = i + 1 := ⟨j - 1, by omega⟩
  exact .back (ih (by omega)) h1 h2
theorem WayB.by_ {p : Int → Prop} {r x : Int} {k : Nat} (b : Int) (h : WayB S at_ p r k x) : WayB S at_ (fun y => p y ∧ y ≠ b) r k x ∨ WayB S at_ p r k b := by
 induction h with
 | @refl k h =>
  by_cases e : r = b
  ·subst e; exact .inr (.refl h)
  ·exact .inl (.refl ⟨h, e⟩)
 | @fwd k c d h0 h1 h2 h3 ih =>
  rcases ih with ih | ih
  ·by_cases e : d = b
   ·subst e; exact .inr (.fwd h0 h1 h2 h3)
   ·exact .inl (.fwd ih h1 h2 ⟨h3, e⟩)
  ·exact .inr ih
 | @back k c d h0 h1 h2 ih =>
  rcases ih with ih | ih
  ·by_cases e : d = b
   ·subst e; exact .inr (.back h0 h1 h2)
   ·exact .inl (.back ih h1 ⟨h2, e⟩)
  ·exact .inr (ih.le (by omega))
theorem WayB.mono {p q : Int → Prop} {r x : Int} {k : Nat} (hpq : ∀ y, p y → q y) (h : WayB S at_ p r k x) : WayB S at_ q r k x := by
 induction h with
 | refl h => exact .refl (hpq _ h)
 | fwd _ h1 h2 h3 ih => exact .fwd ih h1 h2 (hpq _ h3)
 | back _ h1 h2 ih => exact .back ih h1 (hpq _ h2)
def PB (S : Int → List Int) (at_ : Int → Int) (N : Int → Int) (j : Nat) (x : Int) : Prop := ∀ i, i < j → ∀ a, Anc N x a → ¬ WayB S at_ (fun y => y ≠ a) 0 i x
theorem PB.le {j k : Nat} {x : Int} (h : PB S at_ N j x) (hk : k ≤ j) : PB S at_ N k x := fun i hi => h i (by omega)
theorem PB.zero (x : Int) : PB S at_ N 0 x := fun i hi => by omega
theorem PB.none {x : Int} (hx : N x = -1) (j : Nat) : PB S at_ N j x := fun i _ a ha hw => by
 rcases ha.cases' with rfl | ⟨_, h, _⟩
 ·exact hw.end_ rfl
 ·exact h hx
theorem PB.root (j : Nat) : PB S at_ N j 0 := fun i _ a ha hw => by
 rcases ha.cases' with rfl | ⟨h, _, _⟩
 ·exact hw.end_ rfl
 ·exact h rfl
structure Rnd (S : Int → List Int) (at_ : Int → Int) (V : List Int) (N : Int → Int) (j : Nat) (t : Int) : Prop where
 inv : NInv S at_ V N
 has : ∀ x, x ∈ V → (at_ x < t ∨ 1 ≤ j) → N x ≠ -1
 done : ∀ x, x ∈ V → at_ x < t → PB S at_ N (j + 1) x
 all : ∀ x, x ∈ V → PB S at_ N j x
theorem way_in (hV : Ord S at_ V) {p : Int → Prop} {x : Int} {k : Nat} (h : WayB S at_ p 0 k x) : x ∈ V := (hV.mem x).2 (h.way.mono fun _ _ => trivial)
theorem Rnd.self (hV : Ord S at_ V) {j : Nat} (h : Rnd S at_ V N j (at_ b)) (hM : Meets S at_ V N b m) : PB S at_ (setN N b m) (j + 1) b := fun i hi a ha hw => by
 rcases (hM.up hV h.inv).1 ha with e | ha
 ·exact hw.end_ e.symm
 ·cases hw with
  | refl _ => exact hM.ne rfl
  | @fwd _ p _ h1 h2 h3 h4 =>
   have hp := way_in hV h1
   have hpn := h.has p hp (.inl h3)
   exact h.done p hp h3 i hi a ((hM.anc a).1 ha p h2 hpn) h1
  | @back k p _ h1 h2 h3 =>
   have hp := way_in hV h1
   have hpn := h.has p hp (.inr (by omega))
   exact h.all p hp k (by omega) a ((hM.anc a).1 ha p h2 hpn) h1
theorem Rnd.other (hV : Ord S at_ V) {j : Nat} (h : Rnd S at_ V N j (at_ b)) (hM : Meets S at_ V N b m) {x : Int} {k : Nat} (hk : k ≤ j + 1) (hx : PB S at_ N k x) : PB S at_ (setN N b m) k x := fun i hi a ha hw => by
 rcases anc_from ha with h1 | ⟨h1, h2⟩
 ·exact hx i hi a h1 hw
 ·rcases hw.by_ b with h3 | h3
  ·exact hx i hi b h1 (h3.mono fun y hy => hy.2)
  ·exact h.self hV hM i (by omega) a h2 h3
theorem Rnd.step (hV : Ord S at_ V) {j : Nat} (h : Rnd S at_ V N j (at_ b)) (hM : Meets S at_ V N b m) : Rnd S at_ V (setN N b m) j (at_ b + 1) := by
 have hm1 : m ≠ -1 := fun e => by have := hV.nn m (h.inv.mem m hM.has); omega
 refine ⟨h.inv.set hV hM, fun x hx hc => ?_, fun x hx hc => ?_, fun x hx => h.other hV hM (by omega) (h.all x hx)⟩
 ·by_cases e : x = b
  ·subst e; rw [setN_same]; exact hm1
  ·rw [setN_ne e]
   refine h.has x hx ?_
   rcases hc with hc | hc
   ·left
    have : at_ x ≠ at_ b := fun e2 => e (hV.inj x b hx hM.mem e2)
    omega
   ·exact .inr hc
 ·by_cases e : x = b
  ·subst e; exact h.self hV hM
  ·have : at_ x ≠ at_ b := fun e2 => e (hV.inj x b hx hM.mem e2)
   exact h.other hV hM (Nat.le_refl _) (h.done x hx (by omega))
theorem Rnd.next (hV : Ord S at_ V) {j : Nat} {t : Int} (h : Rnd S at_ V N j t) (ht : ∀ x, x ∈ V → at_ x < t) : Rnd S at_ V N (j + 1) 1 :=
 ⟨h.inv, fun x hx _ => h.has x hx (.inl (ht x hx)), fun x hx h1 => by
  have : x = 0 := hV.inj x 0 hx hV.zmem (by rw [hV.zero]; have := (hV.pos x).1 hx; omega)
  subst this; exact PB.root _, fun x hx => h.done x hx (ht x hx)⟩
theorem Rnd.first (hV : Ord S at_ V) : Rnd S at_ V (fun x => if x = 0 then 0 else -1) 0 1 := by
 have hN : NInv S at_ V (fun x => if x = 0 then 0 else -1) := by
  refine ⟨by simp, fun x hx => ?_, fun x h0 hx => ?_, fun x h0 hx => ?_, fun x d hx hd => ?_⟩
  ·by_cases e : x = 0
   ·rw [e]; exact hV.zmem
   ·simp [e] at hx
  ·simp [h0] at hx
  ·simp [h0] at hx
  ·by_cases e : x = 0
   ·subst e
    have : d = 0 := Classical.byContradiction fun hd0 => hd.2 (.refl (fun e => hd0 e.symm))
    subst this; exact .refl _
   ·simp [e] at hx
 refine ⟨hN, fun x hx hc => ?_, fun x hx h1 => ?_, fun x hx => PB.zero x⟩
 ·rcases hc with hc | hc
  ·have : x = 0 := hV.inj x 0 hx hV.zmem (by rw [hV.zero]; have := (hV.pos x).1 hx; omega)
   simp [this]
  ·omega
 ·have : x = 0 := hV.inj x 0 hx hV.zmem (by rw [hV.zero]; have := (hV.pos x).1 hx; omega)
  subst this; exact PB.root _
structure Exact (S : Int → List Int) (at_ : Int → Int) (V : List Int) (N : Int → Int) : Prop where
 inv : NInv S at_ V N
 has : ∀ x, x ∈ V → N x ≠ -1
 anc : ∀ x a, x ∈ V → (Anc N x a ↔ Dom S a x)
theorem Rnd.exact (hV : Ord S at_ V) {j : Nat} {t : Int} (h : Rnd S at_ V N j t) (hj : V.length ≤ j) : Exact S at_ V N := by
 have h1 : 1 ≤ j := by
  have : 0 < V.length := List.length_pos_of_mem hV.zmem
  omega
 refine ⟨h.inv, fun x hx => h.has x hx (.inr h1), fun x a hx => ⟨fun ha=>?_, fun hd => h.inv.dom x a (h.has x hx (.inr h1)) hd⟩⟩
 refine ⟨(hV.mem x).1 hx, fun hw=>?_⟩
 obtain ⟨k, hk, hb⟩ := Way.short at_ V.length V (fun y => y ≠ a ∧ Way S (fun y => y ≠ a) 0 y) 0 x rfl (fun y hy => (hV.mem y).2 (hy.2.mono fun _ _ => trivial)) hw.self
 exact h.all x hx k (by omega) a ha (hb.mono fun y hy => hy.1)
theorem Exact.still (hV : Ord S at_ V) (h : Exact S at_ V N) (hM : Meets S at_ V N b m) : m = N b := by
 have hb := h.has b hM.mem
 obtain ⟨g1, g2, g3⟩ := h.inv.near b hM.ne hb
 have hl := hM.lt h.inv
 have h1 : Anc N m (N b) := (hM.anc _).2 fun p hp hpn => by
  have hd : Dom S (N b) b := (h.anc b (N b) hM.mem).1 (.up hM.ne hb (.refl _))
  have hp2 := h.inv.mem p hpn
  exact (h.anc p (N b) hp2).2 (hd.pred ((hV.mem p).1 hp2) hp (fun e => by rw [e] at g3; omega))
 have h2 : Anc N b m := (h.anc b m hM.mem).2 (Dom.of_preds ((hV.mem b).1 hM.mem) hM.ne fun p hp he => by
  have hp2 := (hV.mem p).2 hp
  exact (h.anc p m hp2).1 ((hM.anc m).1 (.refl _) p he (h.has p hp2)))
 rcases h2.cases' with e | ⟨_, _, h3⟩
 ·rw [e] at hl; omega
 ·have l1 := (h.inv.anc hM.has h1).2.1
  exact h.inv.antisymm hV g2 h3 (by omega)
end
end Go.Proofs.YtiojekbkamegdaaGreatDoor
namespace Go.Proofs.YtiojekbkamegdaaGreatDoor
open Go.Proofs.Tryz
def gi (l : List Int) (x : Int) : Int := if 0 ≤ x then (l[x.toNat]?).getD (-1) else -1
theorem gi_nat (l : List Int) (k : Nat) : gi l (k : Int) = (l[k]?).getD (-1) := by unfold gi; rw [if_pos (by omega)]; rfl
theorem gi_get {l : List Int} {x : Int} (h0 : 0 ≤ x) (h : x.toNat < l.length) : l[x.toNat]? = some (gi l x) := by
 unfold gi; rw [if_pos h0, qq h]; rfl
theorem gi_set {l : List Int} {b : Int} (h0 : 0 ≤ b) (h : b.toNat < l.length) (m : Int) : gi (l.set b.toNat m) = setN (gi l) b m := by
 funext x
 unfold gi setN
 by_cases hx : 0 ≤ x
 ·rw [if_pos hx]
  by_cases e : x = b
  ·subst e; rw [if_pos rfl, List.getElem?_set_self h]; rfl
  ·rw [if_neg e, List.getElem?_set_ne (by omega)]; dsimp only; rw [if_pos hx]
 ·rw [if_neg hx, if_neg (by omega)]; dsimp only; rw [if_neg hx]
theorem gi_out {l : List Int} {x : Int} (h : x < 0 ∨ (l.length : Int) ≤ x) : gi l x = -1 := by
 unfold gi
 split
 ·rw [List.getElem?_eq_none (by omega)]; rfl
 ·rfl
theorem gi_ext {l m : List Int} (hl : l.length = m.length) (h : ∀ x, gi l x = gi m x) : l = m := by
 refine List.ext_getElem hl fun k h1 h2 => ?_
 have := h (k : Int)
 rw [gi_nat, gi_nat, qq h1, qq h2] at this
 simpa using this
theorem set_same {l : List Int} {b : Int} (h0 : 0 ≤ b) : l.set b.toNat (gi l b) = l := by
 by_cases h : b.toNat < l.length
 ·have := gi_get h0 h
  refine List.ext_getElem? fun k=>?_
  by_cases e : k = b.toNat
  ·subst e; rw [List.getElem?_set_self h, this]
  ·rw [List.getElem?_set_ne (fun e2 => e e2.symm)]
 ·exact List.set_eq_of_length_le (by omega)
def atOf (n : Nat) (V : List Int) : List Int := (V.zipIdx).foldl (fun l p => l.set p.1.toNat (p.2 : Int)) (List.replicate n (-1))
def stepL (at_ : List Int) (K : Nat) (preds : Int → List Int) (l : List Int) (b : Int) : List Int := l.set b.toNat (bestF (gi l) (gi at_) K (preds b) (-1))
def passL (at_ : List Int) (K : Nat) (preds : Int → List Int) (V : List Int) (l : List Int) : List Int := V.tail.foldl (stepL at_ K preds) l
def passN (at_ : List Int) (K : Nat) (preds : Int → List Int) (V : List Int) (l : List Int) : Nat → List Int
 | 0 => l
 | k + 1 => passL at_ K preds V (passN at_ K preds V l k)
def first0 (n : Nat) : List Int := (List.replicate n (-1)).set 0 0
structure GOk (S : Int → List Int) (at_ : List Int) (V : List Int) (preds : Int → List Int) (n : Nat) : Prop where
 ord : Ord S (gi at_) V
 lt : ∀ b ∈ V, b < n
 row : ∀ (k : Nat), k < V.length → gi at_ (V[k]?.getD 0) = k
 preds : ∀ b ∈ V, ∀ p, p ∈ preds b ↔ b ∈ S p
section
variable {S : Int → List Int} {at_ V : List Int} {preds : Int → List Int} {n : Nat}
theorem GOk.pos (h : GOk S at_ V preds n) : 0 < V.length := List.length_pos_of_mem h.ord.zmem
theorem GOk.at_lt (h : GOk S at_ V preds n) {b : Int} (hb : b ∈ V) : ∃ k, k < V.length ∧ V[k]? = some b ∧ gi at_ b = k := by
 obtain ⟨k, hk, e⟩ := List.mem_iff_getElem.1 hb
 have := h.row k hk
 rw [qq hk] at this
 exact ⟨k, hk, by rw [qq hk, e], by rw [← e]; exact this⟩
theorem GOk.K (h : GOk S at_ V preds n) : ∀ a b, a ∈ V → b ∈ V → gi at_ a + gi at_ b < ((2 * V.length : Nat) : Int) := fun a b ha hb => by
 obtain ⟨j, hj, _, e1⟩ := h.at_lt ha
 obtain ⟨k, hk, _, e2⟩ := h.at_lt hb
 rw [e1, e2]; omega
theorem GOk.meets (h : GOk S at_ V preds n) {l : List Int} {j : Nat} {b : Int} (hR : Rnd S (gi at_) V (gi l) j (gi at_ b)) (hb : b ∈ V) (h0 : b ≠ 0) : Meets S (gi at_) V (gi l) b (bestF (gi l) (gi at_) (2 * V.length) (preds b) (-1)) := by
 obtain ⟨p, h1, h2, h3⟩ := h.ord.fwd b hb h0
 have hp := hR.has p h1 (.inl h3)
 obtain ⟨g1, g2⟩ := best_none h.ord hR.inv h.K (preds b) ⟨p, (h.preds b hb p).2 h2, hp⟩
 exact ⟨hb, h0, g1, fun x => (g2 x).trans ⟨fun hh q hq => hh q ((h.preds b hb q).2 hq), fun hh q hq => hh q ((h.preds b hb q).1 hq)⟩, p, h2, hp, h3⟩
theorem GOk.step (h : GOk S at_ V preds n) {l : List Int} {j k : Nat} {b : Int} (hl : l.length = n) (hk : 0 < k) (hb : V[k]? = some b) (hR : Rnd S (gi at_) V (gi l) j k) :
  Rnd S (gi at_) V (gi (stepL at_ (2 * V.length) preds l b)) j ((k + 1 : Nat) : Int) ∧ (V.length ≤ j → stepL at_ (2 * V.length) preds l b = l) ∧ gi at_ b = k ∧ b ∈ V ∧ b ≠ 0 := by
 obtain ⟨hk2, e⟩ := List.getElem?_eq_some_iff.1 hb
 have hbm : b ∈ V := e ▸ qu hk2
 have hat : gi at_ b = k := by have := h.row k hk2; rw [hb] at this; exact this
 have hb0 : b ≠ 0 := fun e2 => by rw [e2, h.ord.zero] at hat; omega
 have hnn := h.ord.nn b hbm
 have hblt := h.lt b hbm
 rw [← hat] at hR
 have hM := h.meets hR hbm hb0
 have hset := gi_set (l := l) hnn (by omega) (bestF (gi l) (gi at_) (2 * V.length) (preds b) (-1))
 refine ⟨?_, fun hj=>?_, hat, hbm, hb0⟩
 ·have := hR.step h.ord hM
  unfold stepL
  rw [hset]
  rw [hat] at this
  exact this
 ·have := (hR.exact h.ord hj).still h.ord hM
  unfold stepL
  rw [this, set_same hnn]
theorem stepL_len (K : Nat) (l : List Int) (b : Int) : (stepL at_ K preds l b).length = l.length := by unfold stepL; rw [List.length_set]
theorem fold_len (K : Nat) : ∀ (bs : List Int) (l : List Int), (bs.foldl (stepL at_ K preds) l).length = l.length
 | [], _ => rfl
 | b :: bs, l => by rw [List.foldl_cons, fold_len K bs, stepL_len]
theorem GOk.fold (h : GOk S at_ V preds n) {j : Nat} : ∀ (bs : List Int) (k : Nat) (l : List Int), l.length = n → 0 < k → V.drop k = bs → Rnd S (gi at_) V (gi l) j k →
  Rnd S (gi at_) V (gi (bs.foldl (stepL at_ (2 * V.length) preds) l)) j ((max k V.length : Nat) : Int)
 | [], k, l, hl, hk, hd, hR => by
  have : V.length ≤ k := by have := congrArg List.length hd; simp at this; omega
  rw [Nat.max_eq_left this]; exact hR
 | b :: bs, k, l, hl, hk, hd, hR => by
  have hk2 : k < V.length := by have := congrArg List.length hd; simp at this; omega
  have hb : V[k]? = some b := by have := congrArg (fun z : List Int => z[0]?) hd; simpa using this
  have := GOk.fold h bs (k + 1) _ (by rw [stepL_len, hl]) (by omega) (by rw [← List.drop_drop, hd]; rfl) (h.step hl hk hb hR).1
  rw [List.foldl_cons]
  rwa [show max (k + 1) V.length = max k V.length by omega] at this
theorem GOk.pass (h : GOk S at_ V preds n) {j : Nat} {l : List Int} (hl : l.length = n) (hR : Rnd S (gi at_) V (gi l) j 1) : Rnd S (gi at_) V (gi (passL at_ (2 * V.length) preds V l)) (j + 1) 1 := by
 have h1 := h.fold (j := j) V.tail 1 l hl (by omega) (by rw [List.drop_one]) hR
 refine h1.next h.ord fun x hx => ?_
 obtain ⟨k, hk, _, e⟩ := h.at_lt hx
 rw [e]
 have := h.pos
 omega
theorem passL_len (K : Nat) (l : List Int) : (passL at_ K preds V l).length = l.length := fold_len K _ _
theorem passN_len (K : Nat) (l : List Int) : ∀ k, (passN at_ K preds V l k).length = l.length
 | 0 => rfl
 | k + 1 => by rw [passN, passL_len, passN_len K l k]
theorem GOk.fixed (h : GOk S at_ V preds n) {j : Nat} {l : List Int} (hl : l.length = n) (hR : Rnd S (gi at_) V (gi l) j 1) (hf : passL at_ (2 * V.length) preds V l = l) : Exact S (gi at_) V (gi l) := by
 have : ∀ i, Rnd S (gi at_) V (gi l) (j + i) 1 := fun i => by
  induction i with
  | zero => exact hR
  | succ i ih => have := h.pass hl ih; rw [hf] at this; exact this
 exact (this V.length).exact h.ord (by omega)
theorem first_gi (hn : 0 < n) : gi (first0 n) = fun x => if x = 0 then 0 else -1 := by
 funext x
 unfold first0
 have := gi_set (l := List.replicate n (-1)) (b := 0) (by omega) (by simp; exact hn) 0
 rw [show (0 : Int).toNat = 0 from rfl] at this
 rw [this]
 unfold setN
 split
 ·rfl
 ·unfold gi
  split
  ·rw [List.getElem?_replicate]; split <;> rfl
  ·rfl
theorem GOk.npos (h : GOk S at_ V preds n) : 0 < n := by have := h.lt 0 h.ord.zmem; omega
theorem GOk.begin (h : GOk S at_ V preds n) : Rnd S (gi at_) V (gi (first0 n)) 0 1 := by
 rw [first_gi h.npos]; exact Rnd.first h.ord
theorem GOk.passN (h : GOk S at_ V preds n) : ∀ k, Rnd S (gi at_) V (gi (passN at_ (2 * V.length) preds V (first0 n) k)) k 1
 | 0 => h.begin
 | k + 1 => h.pass (by rw [passN_len]; simp [first0]) (h.passN k)
def nearT (at_ : List Int) (V : List Int) (preds : Int → List Int) (n : Nat) : List Int := Go.Proofs.YtiojekbkamegdaaGreatDoor.passN at_ (2 * V.length) preds V (first0 n) V.length
theorem GOk.near (h : GOk S at_ V preds n) : Exact S (gi at_) V (gi (nearT at_ V preds n)) := (h.passN V.length).exact h.ord (Nat.le_refl _)
theorem Exact.unique {at_ : Int → Int} {N M : Int → Int} (hV : Ord S at_ V) (h1 : Exact S at_ V N) (h2 : Exact S at_ V M) : N = M := by
 funext x
 by_cases hx : x ∈ V
 ·by_cases h0 : x = 0
  ·rw [h0, h1.inv.zero, h2.inv.zero]
  ·have key : ∀ {N M : Int → Int}, Exact S at_ V N → Exact S at_ V M → at_ (N x) ≤ at_ (M x) := fun {N M} h1 h2 => by
    obtain ⟨g1, g2, g3⟩ := h1.inv.near x h0 (h1.has x hx)
    have hd := (h1.anc x (N x) hx).1 (.up h0 (h1.has x hx) (.refl _))
    rcases ((h2.anc x (N x) hx).2 hd).cases' with e | ⟨_, _, h3⟩
    ·rw [e] at g3; omega
    ·obtain ⟨k1, k2, k3⟩ := h2.inv.near x h0 (h2.has x hx)
     exact (h2.inv.anc k2 h3).2.1
   have e1 := key h1 h2
   have e2 := key h2 h1
   exact hV.inj _ _ (h1.inv.near x h0 (h1.has x hx)).1 (h2.inv.near x h0 (h2.has x hx)).1 (by omega)
 ·have e1 : N x = -1 := Classical.byContradiction fun h => hx (h1.inv.mem x h)
  have e2 : M x = -1 := Classical.byContradiction fun h => hx (h2.inv.mem x h)
  rw [e1, e2]
theorem GOk.near_eq (h : GOk S at_ V preds n) {l : List Int} (hl : l.length = n) (hE : Exact S (gi at_) V (gi l)) : l = nearT at_ V preds n :=
 gi_ext (by rw [hl]; unfold nearT; rw [passN_len]; simp [first0]) fun x => congrFun (hE.unique h.ord h.near) x
end
set_option linter.defProp false
def yf := @GStep.knowP
def q6 := @RepL.fld
def qh := @Dec.at
end Go.Proofs.YtiojekbkamegdaaGreatDoor
