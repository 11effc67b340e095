/- What is new and shared with nobody: known by its own memory alone; a look at it; what becomes of it when it is changed. No conditions but bounds. -/
import Derived.Test.YtbkgklpihnfnjaaGreatDoorJb
import Derived.Test.YtbkgklpihnfnjaaGreatDoorChecked
import Derived.Test.YtbkgklpihnfnjaaGreatDoorJa
import Derived.Laws.BytesArg
import Derived.ProofKit
import Derived.OpenShut
import Derived.Deep.Matrix
import Derived.Lib.LaidU8
import Derived.Lib.LaidTab
set_option linter.unusedVariables false
set_option linter.unusedSimpArgs false
set_option linter.unusedSectionVars false
namespace Go.Proofs.YtbkgklpihnfnjaaGreatDoor
open Go.Proofs.Tryz
open Go.Proofs
theorem pl203 : Places prog 203 #[(0, 1), (1, 1), (2, 1)] [.str ⟨#[]⟩, .str ⟨#[]⟩, .str ⟨#[]⟩] := ⟨_, _, underlying203, zeroValue203, fun w => by kernel_rfl, rfl⟩
theorem pl240 : PlacesA prog 240 3 [.str ⟨#[]⟩, .str ⟨#[]⟩, .str ⟨#[]⟩, .str ⟨#[]⟩, .str ⟨#[]⟩, .str ⟨#[]⟩, .str ⟨#[]⟩, .str ⟨#[]⟩, .str ⟨#[]⟩, .str ⟨#[]⟩, .str ⟨#[]⟩, .str ⟨#[]⟩, .str ⟨#[]⟩, .str ⟨#[]⟩, .str ⟨#[]⟩, .str ⟨#[]⟩, .str ⟨#[]⟩, .str ⟨#[]⟩, .str ⟨#[]⟩, .str ⟨#[]⟩, .str ⟨#[]⟩, .str ⟨#[]⟩, .str ⟨#[]⟩, .str ⟨#[]⟩, .str ⟨#[]⟩, .str ⟨#[]⟩, .str ⟨#[]⟩, .str ⟨#[]⟩, .str ⟨#[]⟩, .str ⟨#[]⟩, .str ⟨#[]⟩, .str ⟨#[]⟩, .str ⟨#[]⟩, .str ⟨#[]⟩, .str ⟨#[]⟩, .str ⟨#[]⟩, .str ⟨#[]⟩, .str ⟨#[]⟩, .str ⟨#[]⟩, .str ⟨#[]⟩, .str ⟨#[]⟩, .str ⟨#[]⟩, .str ⟨#[]⟩, .str ⟨#[]⟩, .str ⟨#[]⟩, .str ⟨#[]⟩, .str ⟨#[]⟩, .str ⟨#[]⟩, .str ⟨#[]⟩, .str ⟨#[]⟩, .str ⟨#[]⟩, .str ⟨#[]⟩, .str ⟨#[]⟩, .str ⟨#[]⟩, .str ⟨#[]⟩, .str ⟨#[]⟩, .str ⟨#[]⟩, .str ⟨#[]⟩, .str ⟨#[]⟩, .str ⟨#[]⟩, .str ⟨#[]⟩, .str ⟨#[]⟩, .str ⟨#[]⟩, .str ⟨#[]⟩, .str ⟨#[]⟩, .str ⟨#[]⟩, .str ⟨#[]⟩, .str ⟨#[]⟩, .str ⟨#[]⟩, .str ⟨#[]⟩, .str ⟨#[]⟩, .str ⟨#[]⟩, .str ⟨#[]⟩, .str ⟨#[]⟩, .str ⟨#[]⟩, .str ⟨#[]⟩, .str ⟨#[]⟩, .str ⟨#[]⟩, .str ⟨#[]⟩, .str ⟨#[]⟩, .str ⟨#[]⟩] := ⟨_, _, _, underlying240, zeroValue240, sizeOf203, rfl⟩
variable {E : World}
set_option maxRecDepth 20000
def kindT : List (ByteArray × ByteArray × ByteArray) := [(⟨#[99, 111, 110, 115, 116]⟩, ⟨#[]⟩, ⟨#[105]⟩),
 (⟨#[99, 111, 112, 121]⟩, ⟨#[105]⟩, ⟨#[105]⟩),
 (⟨#[97, 100, 100]⟩, ⟨#[105, 105]⟩, ⟨#[105]⟩),
 (⟨#[115, 117, 98]⟩, ⟨#[105, 105]⟩, ⟨#[105]⟩),
 (⟨#[109, 117, 108]⟩, ⟨#[105, 105]⟩, ⟨#[105]⟩),
 (⟨#[100, 105, 118]⟩, ⟨#[105, 105]⟩, ⟨#[105]⟩),
 (⟨#[114, 101, 109]⟩, ⟨#[105, 105]⟩, ⟨#[105]⟩),
 (⟨#[101, 113]⟩, ⟨#[105, 105]⟩, ⟨#[98]⟩),
 (⟨#[108, 116]⟩, ⟨#[105, 105]⟩, ⟨#[98]⟩),
 (⟨#[108, 101]⟩, ⟨#[105, 105]⟩, ⟨#[98]⟩),
 (⟨#[110, 111, 116]⟩, ⟨#[98]⟩, ⟨#[98]⟩),
 (⟨#[97, 110, 100]⟩, ⟨#[98, 98]⟩, ⟨#[98]⟩),
 (⟨#[108, 101, 110]⟩, ⟨#[97]⟩, ⟨#[105]⟩),
 (⟨#[108, 111, 97, 100]⟩, ⟨#[97, 105]⟩, ⟨#[105]⟩),
 (⟨#[115, 116, 111, 114, 101]⟩, ⟨#[97, 105, 105]⟩, ⟨#[]⟩),
 (⟨#[110, 101, 119]⟩, ⟨#[105]⟩, ⟨#[97]⟩),
 (⟨#[110, 105, 108]⟩, ⟨#[]⟩, ⟨#[97]⟩),
 (⟨#[111, 117, 116]⟩, ⟨#[105]⟩, ⟨#[]⟩),
 (⟨#[99, 104, 107, 105, 100, 120]⟩, ⟨#[97, 105]⟩, ⟨#[]⟩),
 (⟨#[99, 104, 107, 110, 105, 108]⟩, ⟨#[97]⟩, ⟨#[]⟩),
 (⟨#[99, 104, 107, 100, 105, 118]⟩, ⟨#[105]⟩, ⟨#[]⟩),
 (⟨#[99, 104, 107, 97, 100, 100]⟩, ⟨#[105, 105]⟩, ⟨#[]⟩),
 (⟨#[99, 104, 107, 115, 117, 98]⟩, ⟨#[105, 105]⟩, ⟨#[]⟩),
 (⟨#[99, 104, 107, 109, 117, 108]⟩, ⟨#[105, 105]⟩, ⟨#[]⟩),
 (⟨#[99, 104, 107, 108, 101, 110]⟩, ⟨#[105]⟩, ⟨#[]⟩),
 (⟨#[112, 105]⟩, ⟨#[105, 105]⟩, ⟨#[105]⟩),
 (⟨#[112, 105, 108, 101, 110]⟩, ⟨#[105, 97]⟩, ⟨#[105]⟩)]
def kRow (op : Int) : ByteArray × ByteArray × ByteArray := if 0 ≤ op then kindT[op.toNat]?.getD (⟨#[]⟩, ⟨#[]⟩, ⟨#[]⟩) else (⟨#[]⟩, ⟨#[]⟩, ⟨#[]⟩)
def isOp (op : Int) : Bool := decide (0 ≤ op) && decide (op < 27)
def encK (r : ByteArray × ByteArray × ByteArray) : List AV := [.str r.1, .str r.2.1, .str r.2.2]
theorem is_spec (op : Int) : AFun prog E 176 [.int .i64 op] (.bool (isOp op)) := by
 refine zk func176 Z (by decide) Z<|zSr<|zVzAb Z<|z6<|zSr<|zVzMi Z<|z8 (qc Z Z)<|zVzMb Z<|zo (s := 5) Z (fun c1=>?_) (fun c1=>?_)
 ·refine za Z Z c1<|zVzMi Z<|za Z Z c1<|zVGvlss Z Z<|zVzPt Z c1 Z<|zVzAb Z<|z6<|ze<|zi (x := .bool _) Z ?_
  simp_all [isOp] <;> omega
 ·refine z7 Z Z c1<|z7 Z Z c1<|zVzPf Z c1 Z<|zVzAb Z<|z6<|ze<|zi (x := .bool _) Z ?_
  simp_all [isOp] <;> omega
set_option maxHeartbeats 4000000 in
theorem kinds_spec : AFun prog E 177 [] (.agg (kindT.flatMap encK)) := by
 refine zk func177 Z (by decide) Z<|zSr<|zq (cs := [.str ⟨#[]⟩, .str ⟨#[]⟩, .str ⟨#[]⟩, .str ⟨#[]⟩, .str ⟨#[]⟩, .str ⟨#[]⟩, .str ⟨#[]⟩, .str ⟨#[]⟩, .str ⟨#[]⟩, .str ⟨#[]⟩, .str ⟨#[]⟩, .str ⟨#[]⟩, .str ⟨#[]⟩, .str ⟨#[]⟩, .str ⟨#[]⟩, .str ⟨#[]⟩, .str ⟨#[]⟩, .str ⟨#[]⟩, .str ⟨#[]⟩, .str ⟨#[]⟩, .str ⟨#[]⟩, .str ⟨#[]⟩, .str ⟨#[]⟩, .str ⟨#[]⟩, .str ⟨#[]⟩, .str ⟨#[]⟩, .str ⟨#[]⟩, .str ⟨#[]⟩, .str ⟨#[]⟩, .str ⟨#[]⟩, .str ⟨#[]⟩, .str ⟨#[]⟩, .str ⟨#[]⟩, .str ⟨#[]⟩, .str ⟨#[]⟩, .str ⟨#[]⟩, .str ⟨#[]⟩, .str ⟨#[]⟩, .str ⟨#[]⟩, .str ⟨#[]⟩, .str ⟨#[]⟩, .str ⟨#[]⟩, .str ⟨#[]⟩, .str ⟨#[]⟩, .str ⟨#[]⟩, .str ⟨#[]⟩, .str ⟨#[]⟩, .str ⟨#[]⟩, .str ⟨#[]⟩, .str ⟨#[]⟩, .str ⟨#[]⟩, .str ⟨#[]⟩, .str ⟨#[]⟩, .str ⟨#[]⟩, .str ⟨#[]⟩, .str ⟨#[]⟩, .str ⟨#[]⟩, .str ⟨#[]⟩, .str ⟨#[]⟩, .str ⟨#[]⟩, .str ⟨#[]⟩, .str ⟨#[]⟩, .str ⟨#[]⟩, .str ⟨#[]⟩, .str ⟨#[]⟩, .str ⟨#[]⟩, .str ⟨#[]⟩, .str ⟨#[]⟩, .str ⟨#[]⟩, .str ⟨#[]⟩, .str ⟨#[]⟩, .str ⟨#[]⟩, .str ⟨#[]⟩, .str ⟨#[]⟩, .str ⟨#[]⟩, .str ⟨#[]⟩, .str ⟨#[]⟩, .str ⟨#[]⟩, .str ⟨#[]⟩, .str ⟨#[]⟩, .str ⟨#[]⟩]) zeroValue240 Z Z<|fun i0 => z6<|zSr<|z8 (y4 (cps := [(0, [_]), (1, [_]), (2, [_])]) (rs := [_, _, _]) pl203 Z Z Z)<|z8 (y4 (cps := [(0, [_]), (1, [_]), (2, [_])]) (rs := [_, _, _]) pl203 Z Z Z)<|z8 (y4 (cps := [(0, [_]), (1, [_]), (2, [_])]) (rs := [_, _, _]) pl203 Z Z Z)<|z8 (y4 (cps := [(0, [_]), (1, [_]), (2, [_])]) (rs := [_, _, _]) pl203 Z Z Z)<|z8 (y4 (cps := [(0, [_]), (1, [_]), (2, [_])]) (rs := [_, _, _]) pl203 Z Z Z)<|z8 (y4 (cps := [(0, [_]), (1, [_]), (2, [_])]) (rs := [_, _, _]) pl203 Z Z Z)<|z8 (y4 (cps := [(0, [_]), (1, [_]), (2, [_])]) (rs := [_, _, _]) pl203 Z Z Z)<|z8 (y4 (cps := [(0, [_]), (1, [_]), (2, [_])]) (rs := [_, _, _]) pl203 Z Z Z)<|z8 (y4 (cps := [(0, [_]), (1, [_]), (2, [_])]) (rs := [_, _, _]) pl203 Z Z Z)<|z8 (y4 (cps := [(0, [_]), (1, [_]), (2, [_])]) (rs := [_, _, _]) pl203 Z Z Z)<|z8 (y4 (cps := [(0, [_]), (1, [_]), (2, [_])]) (rs := [_, _, _]) pl203 Z Z Z)<|z8 (y4 (cps := [(0, [_]), (1, [_]), (2, [_])]) (rs := [_, _, _]) pl203 Z Z Z)<|z8 (y4 (cps := [(0, [_]), (1, [_]), (2, [_])]) (rs := [_, _, _]) pl203 Z Z Z)<|z8 (y4 (cps := [(0, [_]), (1, [_]), (2, [_])]) (rs := [_, _, _]) pl203 Z Z Z)<|z8 (y4 (cps := [(0, [_]), (1, [_]), (2, [_])]) (rs := [_, _, _]) pl203 Z Z Z)<|z8 (y4 (cps := [(0, [_]), (1, [_]), (2, [_])]) (rs := [_, _, _]) pl203 Z Z Z)<|z8 (y4 (cps := [(0, [_]), (1, [_]), (2, [_])]) (rs := [_, _, _]) pl203 Z Z Z)<|z8 (y4 (cps := [(0, [_]), (1, [_]), (2, [_])]) (rs := [_, _, _]) pl203 Z Z Z)<|z8 (y4 (cps := [(0, [_]), (1, [_]), (2, [_])]) (rs := [_, _, _]) pl203 Z Z Z)<|z8 (y4 (cps := [(0, [_]), (1, [_]), (2, [_])]) (rs := [_, _, _]) pl203 Z Z Z)<|z8 (y4 (cps := [(0, [_]), (1, [_]), (2, [_])]) (rs := [_, _, _]) pl203 Z Z Z)<|z8 (y4 (cps := [(0, [_]), (1, [_]), (2, [_])]) (rs := [_, _, _]) pl203 Z Z Z)<|z8 (y4 (cps := [(0, [_]), (1, [_]), (2, [_])]) (rs := [_, _, _]) pl203 Z Z Z)<|z8 (y4 (cps := [(0, [_]), (1, [_]), (2, [_])]) (rs := [_, _, _]) pl203 Z Z Z)<|z8 (y4 (cps := [(0, [_]), (1, [_]), (2, [_])]) (rs := [_, _, _]) pl203 Z Z Z)<|z8 (y4 (cps := [(0, [_]), (1, [_]), (2, [_])]) (rs := [_, _, _]) pl203 Z Z Z)<|z8 (y4 (cps := [(0, [_]), (1, [_]), (2, [_])]) (rs := [_, _, _]) pl203 Z Z Z)<|z8 (Gv.buildAF (xs := [[_, _, _], [_, _, _], [_, _, _], [_, _, _], [_, _, _], [_, _, _], [_, _, _], [_, _, _], [_, _, _], [_, _, _], [_, _, _], [_, _, _], [_, _, _], [_, _, _], [_, _, _], [_, _, _], [_, _, _], [_, _, _], [_, _, _], [_, _, _], [_, _, _], [_, _, _], [_, _, _], [_, _, _], [_, _, _], [_, _, _], [_, _, _]]) pl240 Z Z Z Z)<|zm sizeOf240 Z Z Z Z Z Z .head Z<|z6<|ze<|afin.c1 Z ⟨_, .head⟩ isAgg240 sizeOf240 Z ?_
 rfl
theorem kRow_out {op : Int} (h : isOp op = false) : kRow op = (⟨#[]⟩, ⟨#[]⟩, ⟨#[]⟩) := by
 unfold isOp at h
 unfold kRow
 split
 ·rename_i h0
  have : ¬ op < 27 := by simpa [h0] using h
  rw [List.getElem?_eq_none (by show 27 ≤ _; omega)]; rfl
 ·rfl
theorem kRow_at {op : Int} (h : isOp op = true) : ∃ j : Nat, op = (j : Int) ∧ j < 27 ∧ ((kindT.flatMap encK).drop (j * 3)).take 3 = encK (kRow op) := by
 unfold isOp at h
 simp at h
 obtain ⟨j, rfl⟩ : ∃ j : Nat, op = j := ⟨op.toNat, by omega⟩
 have hj : j < 27 := by omega
 refine ⟨j, Z, hj, flat_at (enc := encK) (k := 3) (fun _ => Z) _ _ ?_⟩
 unfold kRow
 rw [if_pos h.1, Int.toNat_natCast, qd (show j < kindT.length from hj)]; rfl
theorem of_spec (op : Int) : AFun prog E 132 [.int .i64 op] (.agg (encK (kRow op))) := by
 refine zk func132 Z (by decide) Z<|zSr<|zq (cs := [.str ⟨#[]⟩, .str ⟨#[]⟩, .str ⟨#[]⟩]) zeroValue203 Z Z<|fun i2 => z6<|zb<|zSr<|zVzMi Z<|zd (is_spec _) Z<|zVGvnot Z<|z6<|zz Z (fun c=>?_) (fun c=>?_)
 ·have c : isOp op = false := by simpa using c
  rw [kRow_out c]
  refine zSr<|z8 (y4 (cps := []) (rs := [.str ⟨#[]⟩, .str ⟨#[]⟩, .str ⟨#[]⟩]) pl203 Z Z Z)<|zm sizeOf203 Z Z Z Z Z Z .head Z<|z6<|ze<|afin.c1 Z ⟨_, .head⟩ isAgg203 sizeOf203 Z ?_
  rfl
 ·have c : isOp op = true := by simpa using c
  obtain ⟨j, hj1, hj2, hj3⟩ := kRow_at c
  refine zf<|zSr<|zd (kinds_spec) Z<|zVzMi Z<|z8 (Gv.indexA underlying240 isAgg203 sizeOf203 Z Z hj1 hj2 hj3)<|zm sizeOf203 Z Z Z Z Z Z .head Z<|z6<|ze<|afin.c1 Z ⟨_, .head⟩ isAgg203 sizeOf203 Z ?_
  rfl
theorem word_spec (op : Int) : AFun prog E 85 [.int .i64 op] (.str (kRow op).1) := by
 refine zk func85 Z (by decide) Z<|zSr<|z8 (y8 (v := .str _) Z)<|z6<|zSr<|zVzMi Z<|zd (of_spec _) Z<|z8 (Gv.field1 (v := .str _) underlying203 Z Z5 Z Z)<|z8 (y8 (v := .str _) Z)<|z6<|ze<|zi (x := .str _) Z ?_
 rfl
def isNum (op : Int) : Bool := decide (op = 0) || decide (op = 25)
theorem numbered_spec (op : Int) : AFun prog E 86 [.int .i64 op] (.bool (isNum op)) := by
 refine zk func86 Z (by decide) Z<|zSr<|zVzAb Z<|z6<|zSr<|zVzMi Z<|zVGveqlI Z Z<|zVzMb Z<|zo (s := 5) Z (fun c2=>?_) (fun c2=>?_)
 ·refine z7 Z Z c2<|z7 Z Z c2<|zVzPt Z c2 Z<|zVzAb Z<|z6<|ze<|zi (x := .bool _) Z ?_
  simp_all [isNum]
 ·refine za Z Z c2<|zVzMi Z<|za Z Z c2<|zVGveqlI Z Z<|zVzPf Z c2 Z<|zVzAb Z<|z6<|ze<|zi (x := .bool _) Z ?_
  simp_all [isNum]
def typeOf (c : Int) : Int := if c = 98 then 1 else if c = 97 then 2 else 0
theorem typed_spec (c : Int) : AFun prog E 174 [.int .i32 c] (.int .i64 (typeOf c)) := by
 refine zk func174 Z (by decide) Z<|zSr<|zVzAi Z<|z6<|zb<|zSr<|zVzMi Z<|z6<|zg<|zSr<|zVGveqlI Z Z<|zVzAb Z<|z6<|zz Z (fun c3=>?_) (fun c3=>?_)
 ·refine zSr<|zVzAi Z<|z6<|ze<|zi (x := .int _ _) Z ?_
  simp_all [typeOf]
 ·refine zSr<|zVGveqlI Z Z<|zVzAb Z<|z6<|zz Z (fun c4=>?_) (fun c4=>?_)
  ·refine zSr<|zVzAi Z<|z6<|ze<|zi (x := .int _ _) Z ?_
   simp_all [typeOf]
  ·refine zf<|zSr<|zVzAi Z<|z6<|ze<|zi (x := .int _ _) Z ?_
   simp_all [typeOf]
theorem kT_ascii : ∀ r ∈ kindT, (∀ b ∈ r.2.1.data.toList, b < 128) ∧ (∀ b ∈ r.2.2.data.toList, b < 128) := by decide
theorem kRow_mem (op : Int) : kRow op = (⟨#[]⟩, ⟨#[]⟩, ⟨#[]⟩) ∨ kRow op ∈ kindT := by
 unfold kRow
 split
 ·cases h : kindT[op.toNat]? with
  | none => exact .inl rfl
  | some r => exact .inr (qm h)
 ·exact .inl rfl
theorem kRow_ascii (op : Int) : (∀ b ∈ (kRow op).2.1.data.toList, b < 128) ∧ (∀ b ∈ (kRow op).2.2.data.toList, b < 128) := by
 rcases kRow_mem op with h | h
 ·rw [h]; simp
 ·exact kT_ascii _ h
def takesL (op : Int) : List Int := (kRow op).2.1.data.toList.map fun b => typeOf b.toNat
def makesT (op : Int) : Int := ((kRow op).2.2.data.toList.head?.map fun b => typeOf b.toNat).getD 0
def makesB (op : Int) : Bool := !(kRow op).2.2.data.toList.isEmpty
end Go.Proofs.YtbkgklpihnfnjaaGreatDoor
namespace Go.Proofs.YtbkgklpihnfnjaaGreatDoor
open Go.Proofs.Tryz
open Go.Proofs
theorem ps198_1 : PlacesS prog 198 36 1 1 [.int .i64 0] := ⟨_, X4, Xh, zeroValue36, by decide, by decide, by kernel_rfl⟩
variable {E : World}
set_option maxRecDepth 20000
structure PVar where
 name : ByteArray
 ty : Int
deriving DecidableEq
structure PPhi where
 dst : Int
 args : List Int
 from_ : List Int
deriving DecidableEq
structure PInst where
 op : Int
 dst : Int
 args : List Int
 num : Int
deriving DecidableEq
structure PTerm where
 kind : Int
 var : Int
 to0 : Int
 to1 : Int
deriving DecidableEq
structure PBlock where
 name : ByteArray
 phis : List PPhi
 insts : List PInst
 term : PTerm
deriving DecidableEq
structure PFunc where
 vars : List PVar
 params : List Int
 blocks : List PBlock
deriving DecidableEq
def encI (x : Int) : List AV := [.int .i64 x]
def encVar (v : PVar) : List AV := [.str v.name, .int .i64 v.ty]
def encPhi (p : PPhi) : List AV := [.int .i64 p.dst, .fro 1 (p.args.map encI), .fro 1 (p.from_.map encI)]
def encInst (x : PInst) : List AV := [.int .i64 x.op, .int .i64 x.dst, .fro 1 (x.args.map encI), .int .i64 x.num]
def encTerm (t : PTerm) : List AV := [.int .i64 t.kind, .int .i64 t.var, .int .i64 t.to0, .int .i64 t.to1]
def encBlk (b : PBlock) : List AV := [.str b.name, .fro 3 (b.phis.map encPhi), .fro 4 (b.insts.map encInst), .int .i64 b.term.kind, .int .i64 b.term.var, .int .i64 b.term.to0, .int .i64 b.term.to1]
def encF (f : PFunc) : List AV := [.fro 2 (f.vars.map encVar), .fro 1 (f.params.map encI), .fro 7 (f.blocks.map encBlk)]
theorem takes_spec (op : Int) : AFun prog E 129 [.int .i64 op] (.fro 1 ((takesL op).map encI)) := by
 obtain ⟨hasc, _⟩ := kRow_ascii op
 have hl : (takesL op).length = (kRow op).2.1.size := by unfold takesL; rw [qk]; exact Array.length_toList
 have hlen : (takesL op).length ≤ 3 := by
  rcases kRow_mem op with h | h
  ·unfold takesL; rw [h]; decide
  ·have : ∀ r ∈ kindT, r.2.1.data.toList.length ≤ 3 := by decide
   have := this _ h
   unfold takesL; simpa using this
 refine zk func129 Z (by decide) Z<|zSr<|zVzAr Z<|z6<|zSr<|zVzAr Z<|z6<|adopt_wp (t := 3) (k := 1) (T := 36) Z<|fun i3 => zb<|zSr<|zVzMi Z<|zd (of_spec _) Z<|z8 (Gv.field1 (v := .str _) underlying203 Z Z5 Z Z)<|AOps.rangeT Z3 Z<|fun i9 => z6<|zg<|y3 (γ := Nat × Nat) [9] (fun g => [(3, .own g.2 g.1)]) (fun g => [(i9, .iter (kRow op).2.1 g.1), (g.2, .grow 1 36 (((takesL op).take g.1).map encI).flatten)]) (fun g => g.1 ≤ (takesL op).length) (fun g => (takesL op).length - g.1) (0, i3) zR1 zLe (qg _) ?_
 rintro ⟨p, i⟩ hp
 try dsimp only at *
 try simp only at hp
 by_cases hlt : p < (takesL op).length
 ·have hb : p < (kRow op).2.1.data.toList.length := by rw [hl] at hlt; exact hlt
  have hg : (kRow op).2.1.data[p]? = some (kRow op).2.1.data.toList[p] := by rw [Array.getElem_toList]; exact Array.getElem?_eq_getElem hb
  refine zSr<|AOps.nextA Z hg (hasc _ (qh hb)) .head<|z8 (zXb Z Z)<|z6<|zb<|yh Z Z ?_
  have ht : (takesL op).take (p + 1) = (takesL op).take p ++ [typeOf ((kRow op).2.1.data.toList[p]).toNat] := by
   rw [qe hlt]
   have : (takesL op)[p] = typeOf ((kRow op).2.1.data.toList[p]).toNat := List.getElem_map _
   rw [this]
  refine zf<|zg<|zSr<|z8 (zXi Z Z)<|zVzAi Z<|z6<|zRg<|zVzMo Z<|zVzMi Z<|zd (typed_spec _) Z<|zl (rows := [[_]]) ps198_1 Z Z Z Z Z<|zy (k := 1) X4 type36 Z Z Z Z Z (fun _ => .t1) (by rw [grow_len (k := 1) (fun _ => rfl), qp, Nat.min_eq_left hp]) (by decide) Z (by show (_ + _) * 8 ≤ _; simp <;> omega) (by simp <;> omega)<|fun i17 => zVzAo Z<|z6 ?_
  exact ⟨(p + 1, i17), zR1, zR1, ⟨_, (.refl _), by rw [← grow_push ht]; rfl⟩, hlt, by simp only; omega⟩
 ·refine zSr<|AOps.nextTover Z .head (by rw [← hl]; exact hlt)<|z8 (zXb Z Z)<|z6<|zb<|yc Z Z ?_
  have hkn : p = (takesL op).length := by omega
  subst hkn
  rw [qi]
  refine y2<|zSr<|zVzMo Z<|zVzAo Z<|z6<|ze ?_
  repeat (first | refine aseqQ_ret ?_ | refine ablockQ_ret ?_)
  refine GStep.fin (yw (t := 2) (rows := (takesL op).map encI) Z .t1 (by first | (intro r hr; obtain ⟨x, _, rfl⟩ := List.mem_map.1 hr; rfl) | simp [encI, encVar, encPhi, encInst, encBlk]) (by decide) (by simp))<|zi (x := .fro _ _) Z ?_
  rfl
theorem makes_spec (op : Int) : AFun prog E 128 [.int .i64 op] (.tup [.int .i64 (makesT op), .bool (makesB op)]) := by
 obtain ⟨_, hasc⟩ := kRow_ascii op
 refine zk func128 Z (by decide) Z<|zSr<|zVzAi Z<|zVzAb Z<|z6<|zb<|zSr<|zVzMi Z<|zd (of_spec _) Z<|z8 (Gv.field1 (v := .str _) underlying203 Z Z5 Z Z)<|AOps.rangeT Z3 Z<|fun i9 => z6<|zg<|y3 (γ := Unit) [9] (fun g => []) (fun g => [(i9, .iter (kRow op).2.2 0)]) (fun g => True) (fun g => 0) () trivial zLe (trivial) ?_
 rintro _ _
 by_cases hlt : ∃ c0 tl, (kRow op).2.2.data.toList = c0 :: tl
 ·obtain ⟨c0, tl, hk⟩ := hlt
  have hg : (kRow op).2.2.data[0]? = some c0 := by rw [← Array.getElem?_toList, hk]; rfl
  refine zSr<|AOps.nextA Z hg (hasc _ (by rw [hk]; exact .head _)) .head<|z8 (zXb Z Z)<|z6<|zb<|yh Z Z<|zf<|zg<|zSr<|z8 (zXi Z Z)<|zVzAi Z<|z6<|zSr<|zVzMi Z<|zd (typed_spec _) Z<|zVzAi Z<|zVzAb Z<|z6<|ze<|yp (x := .int _ _) (y := .bool _) Z Z ?_
  unfold makesT makesB; rw [hk]; rfl
 ·have hk : (kRow op).2.2.data.toList = [] := by
   cases h : (kRow op).2.2.data.toList with
   | nil => rfl
   | cons x l => exact absurd ⟨x, l, h⟩ hlt
  refine zSr<|AOps.nextTover Z .head (by show ¬ 0 < (kRow op).2.2.data.size; rw [← Array.length_toList, hk]; decide)<|z8 (zXb Z Z)<|z6<|zb<|yc Z Z<|y2<|zSr<|zVzAi Z<|zVzAb Z<|z6<|ze<|yp (x := .int _ _) (y := .bool _) Z Z ?_
  unfold makesT makesB; rw [hk]; rfl
def hasV (f : PFunc) (v : Int) : Bool := decide (0 ≤ v) && decide (v < f.vars.length)
def hasB (f : PFunc) (b : Int) : Bool := decide (0 ≤ b) && decide (b < f.blocks.length)
theorem has_spec (f : PFunc) (v : Int) : AFun prog E 122 [.agg (encF f), .int .i64 v] (.bool (hasV f v)) := by
 refine zk func122 Z (by decide) Z<|zSr<|y6 (cs := _) Z Z Z<|zVzAb Z<|z6<|zSr<|zVzMi Z<|z8 (qc Z Z)<|zVzMb Z<|zo (s := 7) Z (fun c1=>?_) (fun c1=>?_)
 ·refine za Z Z c1<|zVzMi Z<|za Z Z c1<|zVzFF jc Z Z9 Z Z<|za Z Z c1<|zVzLf Zn Z<|za Z Z c1<|zVGvlenM js Z<|za Z Z c1<|zVGvlss Z Z<|zVzPt Z c1 Z<|zVzAb Z<|z6<|ze<|zi (x := .bool _) Z ?_
  simp_all [hasV] <;> omega
 ·refine z7 Z Z c1<|z7 Z Z c1<|z7 Z Z c1<|z7 Z Z c1<|z7 Z Z c1<|zVzPf Z c1 Z<|zVzAb Z<|z6<|ze<|zi (x := .bool _) Z ?_
  simp_all [hasV] <;> omega
theorem at_spec (f : PFunc) (v : Int) : AFun prog E 126 [.agg (encF f), .int .i64 v] (.bool (hasB f v)) := by
 refine zk func126 Z (by decide) Z<|zSr<|y6 (cs := _) Z Z Z<|zVzAb Z<|z6<|zSr<|zVzMi Z<|z8 (qc Z Z)<|zVzMb Z<|zo (s := 7) Z (fun c2=>?_) (fun c2=>?_)
 ·refine za Z Z c2<|zVzMi Z<|za Z Z c2<|zVzFF jc Z Z2 Z Z<|za Z Z c2<|zVzLf Ze Z<|za Z Z c2<|zVGvlenM jo Z<|za Z Z c2<|zVGvlss Z Z<|zVzPt Z c2 Z<|zVzAb Z<|z6<|ze<|zi (x := .bool _) Z ?_
  simp_all [hasB] <;> omega
 ·refine z7 Z Z c2<|z7 Z Z c2<|z7 Z Z c2<|z7 Z Z c2<|z7 Z Z c2<|zVzPf Z c2 Z<|zVzAb Z<|z6<|ze<|zi (x := .bool _) Z ?_
  simp_all [hasB] <;> omega
def firstI {α : Type} (p : α → Bool) : List α → Nat → Int
 | [], _ => -1
 | x :: xs, k => if p x then k else firstI p xs (k + 1)
theorem firstI_ge {α : Type} (p : α → Bool) : ∀ (xs : List α) (k : Nat), decide (0 ≤ firstI p xs k) = xs.any p
 | [], k => rfl
 | x :: xs, k => by
  unfold firstI
  rw [List.any_cons]
  split
  ·rename_i h; rw [h]; simp
  ·rename_i h; simp [h, firstI_ge p xs (k + 1)]
theorem firstI_drop {α : Type} (p : α → Bool) : ∀ (xs : List α) (k : Nat), k ≤ xs.length → (xs.take k).all (fun x => !p x) = true → firstI p xs 0 = firstI p (xs.drop k) k
 | _, 0, _, _ => rfl
 | xs, k + 1, h, hall => by
  rw [qe (by omega), List.all_append] at hall
  simp only [qs, List.all_cons, List.all_nil, Bool.and_true] at hall
  rw [firstI_drop p xs k (by omega) hall.1, List.drop_eq_getElem_cons (by omega)]
  rw [firstI]
  rw [if_neg (by simpa using hall.2)]
theorem indexFuncI_spec {p : Int → Bool} {fn : FuncId} {c : List AV} (xs : List Int) (hl : xs.length ≤ 281474976710656) (hp : ∀ x, AFun prog E fn ([.int .i64 x] ++ c) (.bool (p x))) :
  AFun prog E 173 [.fro 1 (xs.map encI), .fn fn [] c] (.int .i64 (firstI p xs 0)) := by
 refine zk func173 Z (by decide) Z<|zSr<|zVzAi Z<|z6<|zb<|zSr<|zVzMf Z<|zVGvlenM j9 Z<|zVzMi Z<|z6<|zg<|y3 (γ := Nat) [0, 1, 7] (fun k => [(8, .int .i64 k)]) (fun k => []) (fun k => k ≤ xs.length ∧ (xs.take k).all (fun x => !p x)) (fun k => xs.length - k) 0 zR1 zLe (⟨qg _, Z⟩) ?_
 rintro k ⟨hk, hall⟩
 refine zSr<|zVGvlss Z Z<|z6<|zb<|zr Z (fun ck=>?_) (fun ck=>?_)
 ·have hk2 : k < xs.length := by omega
  refine zf<|zb<|zg<|zSr<|zVzMi Z<|zVzAi Z<|z6<|zSr<|z8 (y9 (v := .fn _ _ _) Z)<|zVzMf Z<|zVzMi Z<|z8 (yi j9 jd Z Z Z (qd (by omega)))<|zVzLi jr Z<|AOps.callVP Z (hp _) Z<|z6<|zz Z (fun cp=>?_) (fun cp=>?_)
  ·refine zSr<|zVzMi Z<|zVzAi Z<|z6<|ze<|zi (x := .int _ _) Z ?_
   rw [firstI_drop p xs k hk hall, List.drop_eq_getElem_cons hk2, firstI, if_pos cp]
  ·refine zf<|zRg<|zVzAd Z Z<|zVzMi Z<|z6 ?_
   exact ⟨k + 1, zR3, zR1, zLe, ⟨hk2, by rw [qe hk2, List.all_append, hall]; simp [cp]⟩, by omega⟩
 ·have hkn : k = xs.length := by omega
  refine y2<|zSr<|zVzAi Z<|z6<|ze<|zi (x := .int _ _) Z ?_
  rw [firstI_drop p xs k hk hall, hkn, List.drop_length, firstI]
theorem containsFuncI_spec {p : Int → Bool} {fn : FuncId} {c : List AV} (xs : List Int) (hl : xs.length ≤ 281474976710656) (hp : ∀ x, AFun prog E fn ([.int .i64 x] ++ c) (.bool (p x))) :
  AFun prog E 124 [.fro 1 (xs.map encI), .fn fn [] c] (.bool (xs.any p)) := by
 refine zk func124 Z (by decide) Z<|zSr<|zVzAb Z<|z6<|zSr<|zVzMf Z<|z8 (y9 (v := .fn _ _ _) Z)<|zd (indexFuncI_spec xs hl hp) Z<|z8 (qc Z Z)<|zVzAb Z<|z6<|ze<|zi (x := .bool _) Z ?_
 rw [firstI_ge]
theorem vars1_spec (f : PFunc) (v : Int) : AFun prog E 172 ([.int .i64 v] ++ [.pf (encF f)]) (.bool (!hasV f v)) := by
 refine zk func172 Z (by decide) Z<|zSr<|zVzAb Z<|z6<|zSr<|zVGvloadWF ju jj Z Z<|zVzMi Z<|zd (has_spec _ _) Z<|zVGvnot Z<|zVzAb Z<|z6<|ze<|zi (x := .bool _) Z ?_
 rfl
theorem vars_spec (f : PFunc) (l : List Int) (hl : l.length ≤ 281474976710656) : AFun prog E 123 [.agg (encF f), .fro 1 (l.map encI)] (.bool (l.all (hasV f))) := by
 refine zk func123 Z (by decide) Z<|zSr<|y6 (cs := _) Z Z Z<|zVzAb Z<|z6<|zSr<|zVzMf Z<|z8 (Gv.func Z Z)<|zd (containsFuncI_spec l hl (vars1_spec f)) Z<|zVGvnot Z<|zVzAb Z<|z6<|ze<|zi (x := .bool _) Z ?_
 rw [List.any_eq_not_all_not]; simp
end Go.Proofs.YtbkgklpihnfnjaaGreatDoor
namespace Go.Proofs.YtbkgklpihnfnjaaGreatDoor
open Go.Proofs.Tryz
def endsL (t : PTerm) : List Int := if t.kind = 0 then [t.to0] else if t.kind = 1 then (if t.to0 = t.to1 then [t.to0] else [t.to0, t.to1]) else []
theorem endsL_len (t : PTerm) : (endsL t).length ≤ 2 := by unfold endsL; split <;> (try split) <;> (try split) <;> simp
theorem endsL_nodup (t : PTerm) : (endsL t).Nodup := by
 unfold endsL
 split
 ·simp
 ·split
  ·split <;> simp_all
  ·simp
def EndsOf (f : PFunc) (b : Int) : List Int := if 0 ≤ b then ((f.blocks[b.toNat]?).map fun c => endsL c.term).getD [] else []
theorem EndsOf_nat {f : PFunc} {k : Nat} (h : k < f.blocks.length) : EndsOf f (k : Int) = endsL f.blocks[k].term := by
 unfold EndsOf; rw [if_pos (by omega)]
 rw [show ((k : Int).toNat) = k from rfl, qd h]; rfl
theorem EndsOf_get {f : PFunc} {b : Int} (h0 : 0 ≤ b) (h : b.toNat < f.blocks.length) : EndsOf f b = endsL f.blocks[b.toNat].term := by
 unfold EndsOf; rw [if_pos h0, qd h]; rfl
theorem EndsOf_out {f : PFunc} {b : Int} (h : ¬ (0 ≤ b ∧ b < f.blocks.length)) : EndsOf f b = [] := by
 unfold EndsOf
 split
 ·rw [List.getElem?_eq_none (by omega)]; rfl
 ·rfl
theorem EndsOf_len (f : PFunc) (b : Int) : (EndsOf f b).length ≤ 2 := by
 unfold EndsOf
 split
 ·cases f.blocks[b.toNat]? with
  | none => simp
  | some c => exact endsL_len c.term
 ·simp
theorem EndsOf_nodup (f : PFunc) (b : Int) : (EndsOf f b).Nodup := by
 unfold EndsOf
 split
 ·cases f.blocks[b.toNat]? with
  | none => simp
  | some c => exact endsL_nodup c.term
 ·simp
structure EndsOk (f : PFunc) : Prop where
 pos : 0 < f.blocks.length
 rng : ∀ b ∈ f.blocks, ∀ c ∈ endsL b.term, 0 ≤ c ∧ c < f.blocks.length
theorem EndsOk.grph {f : PFunc} (h : EndsOk f) : Grph (EndsOf f) f.blocks.length :=
 {npos := h.pos
  rng := fun b h0 h1 c hc => by
   rw [EndsOf_get h0 (by omega)] at hc
   exact h.rng _ (qh (by omega)) c hc
  len := EndsOf_len f
  out := fun _ hx => EndsOf_out hx }
theorem predsT_nodup {E : Int → List Int} (hn : ∀ b, (E b).Nodup) (n : Nat) (b : Int) : (predsT E n b).Nodup ∧ (predsT E n b).Pairwise (· < ·) := by
 have key : (predsT E n b).Pairwise (· < ·) := by
  unfold predsT
  rw [List.flatMap, List.pairwise_flatten]
  constructor
  ·intro l hl
   obtain ⟨i, _, rfl⟩ := List.mem_map.1 hl
   have h1 := hn i
   have h2 : ((E i).filter fun c => decide (c = b)).length ≤ 1 := by
    generalize E i = l at h1
    induction l with
    | nil => simp
    | cons x l ih =>
     rw [List.nodup_cons] at h1
     rw [List.filter_cons]
     split
     ·rename_i hx
      have hx : x = b := by simpa using hx
      have : l.filter (fun c => decide (c = b)) = [] := List.filter_eq_nil_iff.2 fun y hy => by
       intro e
       have : y = b := by simpa using e
       rw [← hx] at this
       exact h1.1 (this ▸ hy)
      rw [this]; simp
     ·exact ih h1.2
   match h3 : ((E i).filter fun c => decide (c = b)) with
   | [] => simp
   | [x] => simp
   | x :: y :: r => rw [h3] at h2; simp at h2
  ·rw [List.pairwise_map]
   unfold intsTo
   rw [List.pairwise_map]
   refine List.Pairwise.imp ?_ List.pairwise_lt_range
   intro i j hij x hx y hy
   obtain ⟨_, _, rfl⟩ := List.mem_map.1 hx
   obtain ⟨_, _, rfl⟩ := List.mem_map.1 hy
   exact Int.ofNat_lt.2 hij
 exact ⟨key.imp fun h e => by omega, key⟩
def JoinP (f : PFunc) : Prop := ∀ i (h : i < f.blocks.length), ∀ p ∈ f.blocks[i].phis, p.from_.Perm (predsT (EndsOf f) f.blocks.length i)
end Go.Proofs.YtbkgklpihnfnjaaGreatDoor
namespace Go.Proofs.YtbkgklpihnfnjaaGreatDoor
open Go.Proofs.Tryz
def sortI (l : List Int) : List Int := l.mergeSort fun x y => decide (x ≤ y)
theorem sortI_perm (l : List Int) : (sortI l).Perm l := List.mergeSort_perm l _
theorem sortI_sorted (l : List Int) : (sortI l).Pairwise (· ≤ ·) := by
 have := List.pairwise_mergeSort (le := fun x y : Int => decide (x ≤ y)) (fun a b c h1 h2 => by simp at *; omega) (fun a b => by simp; omega) l
 exact this.imp fun h => by simpa using h
theorem sortI_eq {l m : List Int} (hm : m.Pairwise (· < ·)) : sortI l = m ↔ l.Perm m := by
 constructor
 ·intro h; rw [← h]; exact (sortI_perm l).symm
 ·intro h
  exact List.Perm.eq_of_pairwise (le := fun a b : Int => a ≤ b) (fun a b _ _ h1 h2 => Int.le_antisymm h1 h2) (sortI_sorted l) (hm.imp fun h => Int.le_of_lt h) ((sortI_perm l).trans h)
theorem perm_of_subset {l m : List Int} (hn : l.Nodup) (hs : ∀ x ∈ l, x ∈ m) (hl : m.length ≤ l.length) : l.Perm m := by
 induction l generalizing m with
 | nil => obtain rfl : m = [] := qn (by simpa using hl); exact .refl _
 | cons x l ih =>
  rw [List.nodup_cons] at hn
  have hx := hs x (.head _)
  have h1 : l.Perm (m.erase x) := ih hn.2 (fun y hy => (List.mem_erase_of_ne (fun e => hn.1 (by rw [← e]; exact hy))).2 (hs y (.tail _ hy))) (by
   rw [List.length_erase_of_mem hx]; simp at hl; omega)
  exact (List.Perm.cons x h1).trans (List.perm_cons_erase hx).symm
def JoinR (f : PFunc) (i : Nat) (l : List Int) : Prop := (predsT (EndsOf f) f.blocks.length i).length = l.length ∧ ∀ k (h : k < l.length), (i : Int) ∈ EndsOf f l[k] ∧ l[k] ∉ l.take k
theorem nodup_take {l : List Int} : l.Nodup ↔ ∀ k (h : k < l.length), l[k] ∉ l.take k := by
 induction l with
 | nil => simp
 | cons x l ih =>
  rw [List.nodup_cons, ih]
  constructor
  ·rintro ⟨h1, h2⟩ k hk
   cases k with
   | zero => simp
   | succ k =>
    simp only [List.getElem_cons_succ, List.take_succ_cons, List.mem_cons, not_or]
    have hk' : k < l.length := by simpa using hk
    exact ⟨fun e => h1 (by rw [← e]; exact qh hk'), h2 k hk'⟩
  ·intro h
   constructor
   ·intro hm
    obtain ⟨k, hk, e⟩ := List.mem_iff_getElem.1 hm
    have := h (k + 1) (by simpa using hk)
    simp [e] at this
   ·intro k hk
    have := h (k + 1) (by simpa using hk)
    simp only [List.getElem_cons_succ, List.take_succ_cons, List.mem_cons, not_or] at this
    exact this.2
theorem joinR_iff {f : PFunc} (hE : EndsOk f) {i : Nat} {l : List Int} : JoinR f i l ↔ l.Perm (predsT (EndsOf f) f.blocks.length i) := by
 have hg := hE.grph
 have hp := predsT_nodup (EndsOf_nodup f) f.blocks.length i
 unfold JoinR
 constructor
 ·rintro ⟨h1, h2⟩
  refine perm_of_subset (nodup_take.2 fun k hk => (h2 k hk).2) (fun x hx => ?_) (by omega)
  obtain ⟨k, hk, rfl⟩ := List.mem_iff_getElem.1 hx
  exact (mem_predsT hg.toEOk hg.out).2 (h2 k hk).1
 ·intro h
  have hn := h.nodup_iff.2 hp.1
  exact ⟨h.length_eq.symm, fun k hk => ⟨(mem_predsT hg.toEOk hg.out).1 (h.mem_iff.1 (qh hk)), nodup_take.1 hn k hk⟩⟩
theorem joinS_iff {f : PFunc} {i : Nat} {l : List Int} : sortI l = predsT (EndsOf f) f.blocks.length i ↔ l.Perm (predsT (EndsOf f) f.blocks.length i) := sortI_eq (predsT_nodup (EndsOf_nodup f) f.blocks.length i).2
end Go.Proofs.YtbkgklpihnfnjaaGreatDoor
namespace Go.Proofs.YtbkgklpihnfnjaaGreatDoor
open Go.Proofs.Tryz
def setsT (l : List Bool) (bs : List Int) : List Bool := bs.foldl (fun l b => l.set b.toNat true) l
theorem setsT_len : ∀ (bs : List Int) (l : List Bool), (setsT l bs).length = l.length
 | [], _ => rfl
 | b :: bs, l => by show (setsT (l.set b.toNat true) bs).length = _; rw [setsT_len bs, List.length_set]
theorem setsT_snoc (l : List Bool) (bs : List Int) (b : Int) : setsT l (bs ++ [b]) = (setsT l bs).set b.toNat true := by unfold setsT; rw [List.foldl_append]; rfl
theorem setsT_get (k : Nat) : ∀ (bs : List Int) (l : List Bool), (∀ b ∈ bs, 0 ≤ b) → k < l.length → (setsT l bs)[k]? = some (decide ((k : Int) ∈ bs) || (l[k]?).getD false)
 | [], l, _, hk => by show l[k]? = _; rw [qd hk]; simp
 | b :: bs, l, h, hk => by
  show (setsT (l.set b.toNat true) bs)[k]? = _
  rw [setsT_get k bs _ (fun c hc => h c (.tail _ hc)) (by rw [List.length_set]; exact hk), List.getElem?_set]
  have h0 := h b (.head _)
  by_cases e : b.toNat = k
  ·have : (k : Int) = b := by omega
   rw [if_pos e, if_pos (by omega), this]; simp
  ·have : ¬ (k : Int) = b := by omega
   rw [if_neg e]; simp [this]
def reachB (E : Int → List Int) (n : Nat) : List Bool := setsT (List.replicate n false) (orderT E n)
theorem reachB_get {E : Int → List Int} {n : Nat} (hE : EOk E n) {k : Nat} (hk : k < n) : (reachB E n)[k]? = some (decide ((k : Int) ∈ orderT E n)) := by
 unfold reachB
 rw [setsT_get k _ _ (fun b hb => (order_rng hE hb).1) (by simp; exact hk)]
 simp [hk]
def phJ (f : PFunc) (i : Nat) (p : PPhi) : Bool := decide (sortI p.from_ = predsT (EndsOf f) f.blocks.length i)
def blkJ (f : PFunc) (i : Nat) : Bool := ((f.blocks[i]?).map fun b => b.phis.all (phJ f i)).getD true
def joinedB (f : PFunc) : Bool := (List.range f.blocks.length).all (blkJ f)
theorem blkJ_at {f : PFunc} {i : Nat} {b : PBlock} (h : f.blocks[i]? = some b) : blkJ f i = b.phis.all (phJ f i) := by unfold blkJ; rw [h]; rfl
theorem joinedB_iff (f : PFunc) : joinedB f = true ↔ JoinP f := by
 unfold joinedB JoinP
 rw [List.all_eq_true]
 constructor
 ·intro h i hi p hp
  have := h i (List.mem_range.2 hi)
  rw [blkJ_at (qd hi), List.all_eq_true] at this
  exact joinS_iff.1 (by simpa [phJ] using this p hp)
 ·intro h i hi
  have hi := List.mem_range.1 hi
  rw [blkJ_at (qd hi), List.all_eq_true]
  intro p hp
  simpa [phJ] using joinS_iff.2 (h i hi p hp)
theorem range_all_succ {p : Nat → Bool} {k : Nat} (h : (List.range k).all p = true) (hk : p k = true) : (List.range (k + 1)).all p = true := by rw [List.range_succ, List.all_append, h]; simp [hk]
theorem range_all_bad {p : Nat → Bool} {k n : Nat} (hk : k < n) (h : p k = false) : (List.range n).all p = false := by
 rw [Bool.eq_false_iff]; intro ha
 have := List.all_eq_true.1 ha k (List.mem_range.2 hk)
 rw [h] at this; cases this
end Go.Proofs.YtbkgklpihnfnjaaGreatDoor
namespace Go.Proofs.YtbkgklpihnfnjaaGreatDoor
open Go.Proofs.Tryz
open Go.Proofs
variable {E : World}
set_option maxRecDepth 20000
def okL {α : Type} (l : List α) : Prop := l.length ≤ 140737488355328
def okPhi (p : PPhi) : Prop := okL p.args ∧ okL p.from_
def okBlk (b : PBlock) : Prop := okL b.phis ∧ okL b.insts ∧ (∀ p ∈ b.phis, okPhi p) ∧ (∀ x ∈ b.insts, okL x.args)
def okFunc (f : PFunc) : Prop := okL f.vars ∧ okL f.params ∧ okL f.blocks ∧ ∀ b ∈ f.blocks, okBlk b
theorem okL.lt {α : Type} {l : List α} (h : okL l) : l.length ≤ 140737488355328 := h
theorem jb {x y : Bool} (h : x = y) : AV.bool x = AV.bool y := congrArg AV.bool h
theorem impNil (k : Nat) : ∀ I v, RepV I (.raw (.slice none 0 0)) v → RepV I (.fro k []) v := fun _ _ h => ⟨none, 0, 0, h, rfl, Nat.le_refl _, fun _ => rfl, trivial⟩
theorem eq_var (a c : ByteArray) (b d : Int) (w : World) : (Op.equalIn 10000 38 (.agg [.string a, .int .i64 b].toArray) (.agg [.string c, .int .i64 d].toArray)).run prog w = .ok (decide (a = c ∧ b = d)) w := by
 have hS : prog.underlying 38 = some (.struct (prog.fieldsOf 38)) := by kernel_rfl
 have hp : prog.stoodInHeld 38 = false := by kernel_rfl
 rw [show (10000 : Nat) = 9999 + 1 from rfl, run_equalIn_agg w 9999 _ _ _ hS hp]
 simp only [Program.fieldsOf, Zf]
 simp [Op.eqFields, part, Z5, isAgg36, run_equalIn_string, run_equalIn_int, Z3, underlying36]
 have e := bytes_eq a c
 by_cases h1 : a = c
 ·subst h1; by_cases h2 : b = d <;> simp [h2]
 ·have h3 : ¬ a.toList = c.toList := by simpa [h1] using e
  simp [h1, h3]
theorem eq_arr (a b c d : Int) (w : World) (m : Nat) : (Op.equalIn (m + 2) 44 (.agg [.int .i64 a, .int .i64 b].toArray) (.agg [.int .i64 c, .int .i64 d].toArray)).run prog w = .ok (decide (a = c ∧ b = d)) w := by
 rw [Op.equalIn]
 simp only [Sem.run_bind, run_underlying jy, Result.andThen_ok]
 simp only [Std.Legacy.Range.forIn_eq_forIn_range', Std.Legacy.Range.size, Nat.sub_zero, Nat.add_sub_cancel, Nat.div_one, List.range'_succ, List.range'_zero, List.forIn_cons, List.forIn_nil]
 simp [part, jr, jd, run_equalIn_int, Zg]
 by_cases h1 : a = c <;> by_cases h2 : b = d <;> simp [h1, h2]
theorem eq_term (k v t0 t1 k' v' t0' t1' : Int) (w : World) : (Op.equalIn 10000 46 (.agg [.int .i64 k, .int .i64 v, .int .i64 t0, .int .i64 t1].toArray) (.agg [.int .i64 k', .int .i64 v', .int .i64 t0', .int .i64 t1'].toArray)).run prog w = .ok (decide (k = k' ∧ v = v' ∧ t0 = t0' ∧ t1 = t1')) w := by
 have hS : prog.underlying 46 = some (.struct (prog.fieldsOf 46)) := by kernel_rfl
 have hp : prog.stoodInHeld 46 = false := by kernel_rfl
 rw [show (10000 : Nat) = 9999 + 1 from rfl, run_equalIn_agg w 9999 _ _ _ hS hp]
 simp only [Program.fieldsOf, je]
 have ha : (Op.equalIn 9999 44 (.agg #[.int .i64 t0, .int .i64 t1]) (.agg #[.int .i64 t0', .int .i64 t1'])).run prog w = .ok (decide (t0 = t0' ∧ t1 = t1')) w := eq_arr t0 t1 t0' t1' w 9997
 simp [Op.eqFields, part, jr, Y0, isAgg44, Z8, run_equalIn_int, Zg, underlying43, ha]
 by_cases h1 : k = k' <;> by_cases h2 : v = v' <;> by_cases h3 : t0 = t0' <;> by_cases h4 : t1 = t1' <;> simp [h1, h2, h3, h4]
theorem term_iff (x y : PTerm) : decide (x = y) = decide (x.kind = y.kind ∧ x.var = y.var ∧ x.to0 = y.to0 ∧ x.to1 = y.to1) := by
 cases x; cases y; simp
theorem phi_iff (x y : PPhi) : decide (x = y) = (decide (x.dst = y.dst) && decide (x.args = y.args) && decide (x.from_ = y.from_)) := by
 cases x; cases y; simp [Bool.and_assoc]
theorem inst_iff (x y : PInst) : decide (x = y) = (decide (x.op = y.op) && decide (x.dst = y.dst) && decide (x.num = y.num) && decide (x.args = y.args)) := by
 cases x; cases y; apply Bool.eq_iff_iff.2; simp; constructor <;> (intro h; simp_all)
theorem blk_iff (x y : PBlock) : decide (x = y) = (decide (x.name = y.name) && decide (x.term = y.term) && decide (x.phis = y.phis) && decide (x.insts = y.insts)) := by
 cases x; cases y; apply Bool.eq_iff_iff.2; simp; constructor <;> (intro h; simp_all)
theorem var_ext {x y : PVar} (h : x.name = y.name ∧ x.ty = y.ty) : x = y := by
 cases x; cases y; simp_all
theorem func_iff (x y : PFunc) : decide (x = y) = (decide (x.vars = y.vars) && decide (x.params = y.params) && decide (x.blocks = y.blocks)) := by
 cases x; cases y; simp [Bool.and_assoc]
theorem equalI_spec (xs ys : List Int) (hl : okL xs) : AFun prog E 52 [.fro 1 (xs.map encI), .fro 1 (ys.map encI)] (.bool (decide (xs = ys))) := by
 have hl := hl.lt
 refine zk func52 Z (by decide) Z<|zSr<|zVzAb Z<|z6<|zb<|zSr<|zVzMf Z<|zVGvlenM j9 Z<|zVzMf Z<|zVGvlenM j9 Z<|zVGvneqI Z Z<|z6<|zz Z (fun c0=>?_) (fun c0=>?_)
 ·have h : ¬ xs = ys := fun e => by subst e; simp at c0
  refine zSr<|zVzAb Z<|z6<|ze<|zi (x := .bool _) Z ?_
  rw [qr h]
 ·have hl2 : xs.length = ys.length := by simp at c0; omega
  refine zf<|zb<|zSr<|zVzMf Z<|zVGvlenM j9 Z<|zVzMi Z<|z6<|zg<|y3 (γ := Nat) [0, 1, 12] (fun k => [(13, .int .i64 k)]) (fun k => []) (fun k => k ≤ xs.length ∧ xs.take k = ys.take k) (fun k => xs.length - k) 0 zR1 zLe (⟨qg _, Z⟩) ?_
  rintro k ⟨hk, he⟩
  refine zSr<|zVGvlss Z Z<|z6<|zb<|zr Z (fun ck=>?_) (fun ck=>?_)
  ·have hk2 : k < xs.length := by omega
   have hk3 : k < ys.length := by omega
   refine zf<|zb<|zg<|zSr<|zVzMi Z<|zVzAi Z<|z6<|zb<|zw (fun j => false) (by kernel_rfl) Z (zu (.rest _))<|zTk 0 Z (zMf Z)<|zTk 1 Z (zMi Z)<|zTk 2 Z (yi j9 jd Z Z Z (qd (by omega)))<|zTk 3 Z (zLi jr Z)<|zTk 4 Z (zMf Z)<|zTk 5 Z (zMi Z)<|zTk 6 Z (yi j9 jd Z Z Z (qd (by omega)))<|zTk 7 Z (zLi jr Z)<|zTk 8 Z (Gv.neqI Z Z)<|zDn<|zz Z (fun cd=>?_) (fun cd=>?_)
   ·refine zSr<|zVzAb Z<|z6<|ze<|zi (x := .bool _) Z ?_
    rw [qr (ne_at hk2 hk3 (by simpa using cd))]
   ·refine zf<|zRg<|zVzAd Z Z<|zVzMi Z<|z6 ?_
    exact ⟨k + 1, zR3, zR1, zLe, ⟨hk2, take_push hk2 hk3 he (by simpa using cd)⟩, by omega⟩
  ·refine y2<|zSr<|zVzAb Z<|z6<|ze<|zi (x := .bool _) Z ?_
   rw [qq (take_done hl2 (by omega) he)]
theorem ints_spec (xs ys : List Int) (hl : okL xs) : AFun prog E 21 [.fro 1 (xs.map encI), .fro 1 (ys.map encI)] (.bool (decide (xs = ys))) := by
 have hl := hl.lt
 refine zk func21 Z (by decide) Z<|zSr<|zVzAb Z<|z6<|zb<|zSr<|zVzMf Z<|zVGvlenM j9 Z<|zVzMf Z<|zVGvlenM j9 Z<|zVGvneqI Z Z<|z6<|zz Z (fun c0=>?_) (fun c0=>?_)
 ·have h : ¬ xs = ys := fun e => by subst e; simp at c0
  refine zSr<|zVzAb Z<|z6<|ze<|zi (x := .bool _) Z ?_
  rw [qr h]
 ·have hl2 : xs.length = ys.length := by simp at c0; omega
  refine zf<|zb<|zSr<|zVzMf Z<|zVGvlenM j9 Z<|zVzMi Z<|z6<|zg<|y3 (γ := Nat) [0, 1, 12] (fun k => [(13, .int .i64 k)]) (fun k => []) (fun k => k ≤ xs.length ∧ xs.take k = ys.take k) (fun k => xs.length - k) 0 zR1 zLe (⟨qg _, Z⟩) ?_
  rintro k ⟨hk, he⟩
  refine zSr<|zVGvlss Z Z<|z6<|zb<|zr Z (fun ck=>?_) (fun ck=>?_)
  ·have hk2 : k < xs.length := by omega
   have hk3 : k < ys.length := by omega
   refine zf<|zb<|zg<|zSr<|zVzMi Z<|zVzAi Z<|z6<|zb<|zw (fun j => false) (by kernel_rfl) Z (zu (.rest _))<|zTk 0 Z (zMf Z)<|zTk 1 Z (zMi Z)<|zTk 2 Z (yi j9 jd Z Z Z (qd (by omega)))<|zTk 3 Z (zLi jr Z)<|zTk 4 Z (zMf Z)<|zTk 5 Z (zMi Z)<|zTk 6 Z (yi j9 jd Z Z Z (qd (by omega)))<|zTk 7 Z (zLi jr Z)<|zTk 8 Z (Gv.neqI Z Z)<|zDn<|zz Z (fun cd=>?_) (fun cd=>?_)
   ·refine zSr<|zVzAb Z<|z6<|ze<|zi (x := .bool _) Z ?_
    rw [qr (ne_at hk2 hk3 (by simpa using cd))]
   ·refine zf<|zRg<|zVzAd Z Z<|zVzMi Z<|z6 ?_
    exact ⟨k + 1, zR3, zR1, zLe, ⟨hk2, take_push hk2 hk3 he (by simpa using cd)⟩, by omega⟩
  ·refine y2<|zSr<|zVzAb Z<|z6<|ze<|zi (x := .bool _) Z ?_
   rw [qq (take_done hl2 (by omega) he)]
theorem equalV_spec (xs ys : List PVar) (hl : okL xs) : AFun prog E 51 [.fro 2 (xs.map encVar), .fro 2 (ys.map encVar)] (.bool (decide (xs = ys))) := by
 have hl := hl.lt
 refine zk func51 Z (by decide) Z<|zSr<|zVzAb Z<|z6<|zb<|zSr<|zVzMf Z<|zVGvlenM js Z<|zVzMf Z<|zVGvlenM js Z<|zVGvneqI Z Z<|z6<|zz Z (fun c0=>?_) (fun c0=>?_)
 ·have h : ¬ xs = ys := fun e => by subst e; simp at c0
  refine zSr<|zVzAb Z<|z6<|ze<|zi (x := .bool _) Z ?_
  rw [qr h]
 ·have hl2 : xs.length = ys.length := by simp at c0; omega
  refine zf<|zb<|zSr<|zVzMf Z<|zVGvlenM js Z<|zVzMi Z<|z6<|zg<|y3 (γ := Nat) [0, 1, 12] (fun k => [(13, .int .i64 k)]) (fun k => []) (fun k => k ≤ xs.length ∧ xs.take k = ys.take k) (fun k => xs.length - k) 0 zR1 zLe (⟨qg _, Z⟩) ?_
  rintro k ⟨hk, he⟩
  refine zSr<|zVGvlss Z Z<|z6<|zb<|zr Z (fun ck=>?_) (fun ck=>?_)
  ·have hk2 : k < xs.length := by omega
   have hk3 : k < ys.length := by omega
   refine zf<|zb<|zg<|zSr<|zVzMi Z<|zVzAi Z<|z6<|zb<|zw (fun j => false) (by kernel_rfl) Z (zu (.rest _))<|zTk 0 Z (zMf Z)<|zTk 1 Z (zMi Z)<|zTk 2 Z (yi js Zd Z Z Z (qd (by omega)))<|zTk 3 Z (yq Xg Zd Z Z)<|zTk 4 Z (zMf Z)<|zTk 5 Z (zMi Z)<|zTk 6 Z (yi js Zd Z Z Z (qd (by omega)))<|zTk 7 Z (yq Xg Zd Z Z)<|zTk 8 Z (Gv.neqP (xs := [.string _, .int _ _]) (ys := [.string _, .int _ _]) (by kernel_rfl) Z Z (fun w => eq_var _ _ _ _ w))<|zDn<|zz Z (fun cd=>?_) (fun cd=>?_)
   ·refine zSr<|zVzAb Z<|z6<|ze<|zi (x := .bool _) Z ?_
    rw [qr (ne_at hk2 hk3 (by intro e; simp [e] at cd))]
   ·refine zf<|zRg<|zVzAd Z Z<|zVzMi Z<|z6 ?_
    exact ⟨k + 1, zR3, zR1, zLe, ⟨hk2, take_push hk2 hk3 he (var_ext (by simpa using cd))⟩, by omega⟩
  ·refine y2<|zSr<|zVzAb Z<|z6<|ze<|zi (x := .bool _) Z ?_
   rw [qq (take_done hl2 (by omega) he)]
theorem equalP_spec {fn : FuncId} {c : List AV} (xs ys : List PPhi) (hl : okL xs) (hp : ∀ x ∈ xs, ∀ y, AFun prog E fn ([.agg (encPhi x), .agg (encPhi y)] ++ c) (.bool (decide (x = y)))) : AFun prog E 88 [.fro 3 (xs.map encPhi), .fro 3 (ys.map encPhi), .fn fn [] c] (.bool (decide (xs = ys))) := by
 have hl := hl.lt
 refine zk func88 Z (by decide) Z<|zSr<|zVzAb Z<|z6<|zb<|zSr<|zVzMf Z<|zVGvlenM jw Z<|zVzMf Z<|zVGvlenM jw Z<|zVGvneqI Z Z<|z6<|zz Z (fun c0=>?_) (fun c0=>?_)
 ·have h : ¬ xs = ys := fun e => by subst e; simp at c0
  refine zSr<|zVzAb Z<|z6<|ze<|zi (x := .bool _) Z ?_
  rw [qr h]
 ·have hl2 : xs.length = ys.length := by simp at c0; omega
  refine zf<|zb<|zSr<|zVzMf Z<|zVGvlenM jw Z<|zVzMi Z<|z6<|zg<|y3 (γ := Nat) [1, 2, 15, 16] (fun k => [(17, .int .i64 k)]) (fun k => []) (fun k => k ≤ xs.length ∧ xs.take k = ys.take k) (fun k => xs.length - k) 0 zR1 zLe (⟨qg _, Z⟩) ?_
  rintro k ⟨hk, he⟩
  refine zSr<|zVGvlss Z Z<|z6<|zb<|zr Z (fun ck=>?_) (fun ck=>?_)
  ·have hk2 : k < xs.length := by omega
   have hk3 : k < ys.length := by omega
   refine zf<|zb<|zg<|zSr<|zVzMi Z<|z8 (yi jw Z0 Z Z Z (qd (by omega)))<|zVGvloadWF Zv Z0 Z Z<|zq (cs := [.int .i64 0, .raw (.slice none 0 0), .raw (.slice none 0 0)]) Zk Z Z<|fun i8 => zVzAi Z<|zm Z0 Z Z Z Z Z Z .head Z<|z6<|zSr<|zVzMf Z<|zVzMi Z<|z8 (yi jw Z0 Z Z Z (qd (by omega)))<|zVGvloadWF Zv Z0 Z Z<|zq (cs := [.int .i64 0, .raw (.slice none 0 0), .raw (.slice none 0 0)]) Zk Z Z<|fun i9 => zm Z0 Z Z Z Z Z Z .head Z<|z6<|zSr<|z8 (y9 (v := .fn _ _ _) Z)<|z8 (yg Zv Z0 Z ⟨_, .t1⟩ Z)<|z8 (yg Zv Z0 Z ⟨_, .head⟩ Z)<|AOps.callVP Z (hp _ (qh _) _) Z<|zVGvnot Z<|z6<|zz Z (fun cd=>?_) (fun cd=>?_)
   ·refine zSr<|zVzAb Z<|z6<|ze<|zi (x := .bool _) Z ?_
    rw [qr (ne_at hk2 hk3 (by simpa using cd))]
   ·refine zf<|zRg<|zVzAd Z Z<|zVzMi Z<|z6 ?_
    exact ⟨k + 1, zR4, zR1, ⟨_, (.drop (.drop (.refl _))), rfl⟩, ⟨hk2, take_push hk2 hk3 he (by simpa using cd)⟩, by omega⟩
  ·refine y2<|zSr<|zVzAb Z<|z6<|ze<|zi (x := .bool _) Z ?_
   rw [qq (take_done hl2 (by omega) he)]
theorem equalX_spec {fn : FuncId} {c : List AV} (xs ys : List PInst) (hl : okL xs) (hp : ∀ x ∈ xs, ∀ y, AFun prog E fn ([.agg (encInst x), .agg (encInst y)] ++ c) (.bool (decide (x = y)))) : AFun prog E 90 [.fro 4 (xs.map encInst), .fro 4 (ys.map encInst), .fn fn [] c] (.bool (decide (xs = ys))) := by
 have hl := hl.lt
 refine zk func90 Z (by decide) Z<|zSr<|zVzAb Z<|z6<|zb<|zSr<|zVzMf Z<|zVGvlenM Z1 Z<|zVzMf Z<|zVGvlenM Z1 Z<|zVGvneqI Z Z<|z6<|zz Z (fun c0=>?_) (fun c0=>?_)
 ·have h : ¬ xs = ys := fun e => by subst e; simp at c0
  refine zSr<|zVzAb Z<|z6<|ze<|zi (x := .bool _) Z ?_
  rw [qr h]
 ·have hl2 : xs.length = ys.length := by simp at c0; omega
  refine zf<|zb<|zSr<|zVzMf Z<|zVGvlenM Z1 Z<|zVzMi Z<|z6<|zg<|y3 (γ := Nat) [1, 2, 15, 16] (fun k => [(17, .int .i64 k)]) (fun k => []) (fun k => k ≤ xs.length ∧ xs.take k = ys.take k) (fun k => xs.length - k) 0 zR1 zLe (⟨qg _, Z⟩) ?_
  rintro k ⟨hk, he⟩
  refine zSr<|zVGvlss Z Z<|z6<|zb<|zr Z (fun ck=>?_) (fun ck=>?_)
  ·have hk2 : k < xs.length := by omega
   have hk3 : k < ys.length := by omega
   refine zf<|zb<|zg<|zSr<|zVzMi Z<|z8 (yi Z1 Z7 Z Z Z (qd (by omega)))<|zVGvloadWF Y3 Z7 Z Z<|zq (cs := [.int .i64 0, .int .i64 0, .raw (.slice none 0 0), .int .i64 0]) Zt Z Z<|fun i8 => zVzAi Z<|zm Z7 Z Z Z Z Z Z .head Z<|z6<|zSr<|zVzMf Z<|zVzMi Z<|z8 (yi Z1 Z7 Z Z Z (qd (by omega)))<|zVGvloadWF Y3 Z7 Z Z<|zq (cs := [.int .i64 0, .int .i64 0, .raw (.slice none 0 0), .int .i64 0]) Zt Z Z<|fun i9 => zm Z7 Z Z Z Z Z Z .head Z<|z6<|zSr<|z8 (y9 (v := .fn _ _ _) Z)<|z8 (yg Y3 Z7 Z ⟨_, .t1⟩ Z)<|z8 (yg Y3 Z7 Z ⟨_, .head⟩ Z)<|AOps.callVP Z (hp _ (qh _) _) Z<|zVGvnot Z<|z6<|zz Z (fun cd=>?_) (fun cd=>?_)
   ·refine zSr<|zVzAb Z<|z6<|ze<|zi (x := .bool _) Z ?_
    rw [qr (ne_at hk2 hk3 (by simpa using cd))]
   ·refine zf<|zRg<|zVzAd Z Z<|zVzMi Z<|z6 ?_
    exact ⟨k + 1, zR4, zR1, ⟨_, (.drop (.drop (.refl _))), rfl⟩, ⟨hk2, take_push hk2 hk3 he (by simpa using cd)⟩, by omega⟩
  ·refine y2<|zSr<|zVzAb Z<|z6<|ze<|zi (x := .bool _) Z ?_
   rw [qq (take_done hl2 (by omega) he)]
theorem equalB_spec {fn : FuncId} {c : List AV} (xs ys : List PBlock) (hl : okL xs) (hp : ∀ x ∈ xs, ∀ y, AFun prog E fn ([.agg (encBlk x), .agg (encBlk y)] ++ c) (.bool (decide (x = y)))) : AFun prog E 53 [.fro 7 (xs.map encBlk), .fro 7 (ys.map encBlk), .fn fn [] c] (.bool (decide (xs = ys))) := by
 have hl := hl.lt
 refine zk func53 Z (by decide) Z<|zSr<|zVzAb Z<|z6<|zb<|zSr<|zVzMf Z<|zVGvlenM jo Z<|zVzMf Z<|zVGvlenM jo Z<|zVGvneqI Z Z<|z6<|zz Z (fun c0=>?_) (fun c0=>?_)
 ·have h : ¬ xs = ys := fun e => by subst e; simp at c0
  refine zSr<|zVzAb Z<|z6<|ze<|zi (x := .bool _) Z ?_
  rw [qr h]
 ·have hl2 : xs.length = ys.length := by simp at c0; omega
  refine zf<|zb<|zSr<|zVzMf Z<|zVGvlenM jo Z<|zVzMi Z<|z6<|zg<|y3 (γ := Nat) [1, 2, 15, 16] (fun k => [(17, .int .i64 k)]) (fun k => []) (fun k => k ≤ xs.length ∧ xs.take k = ys.take k) (fun k => xs.length - k) 0 zR1 zLe (⟨qg _, Z⟩) ?_
  rintro k ⟨hk, he⟩
  refine zSr<|zVGvlss Z Z<|z6<|zb<|zr Z (fun ck=>?_) (fun ck=>?_)
  ·have hk2 : k < xs.length := by omega
   have hk3 : k < ys.length := by omega
   refine zf<|zb<|zg<|zSr<|zVzMi Z<|z8 (yi jo jt Z Z Z (qd (by omega)))<|zVGvloadWF Zq jt Z Z<|zq (cs := [.str ⟨#[]⟩, .raw (.slice none 0 0), .raw (.slice none 0 0), .int .i64 0, .int .i64 0, .int .i64 0, .int .i64 0]) Zb Z Z<|fun i8 => zVzAi Z<|zm jt Z Z Z Z Z Z .head Z<|z6<|zSr<|zVzMf Z<|zVzMi Z<|z8 (yi jo jt Z Z Z (qd (by omega)))<|zVGvloadWF Zq jt Z Z<|zq (cs := [.str ⟨#[]⟩, .raw (.slice none 0 0), .raw (.slice none 0 0), .int .i64 0, .int .i64 0, .int .i64 0, .int .i64 0]) Zb Z Z<|fun i9 => zm jt Z Z Z Z Z Z .head Z<|z6<|zSr<|z8 (y9 (v := .fn _ _ _) Z)<|z8 (yg Zq jt Z ⟨_, .t1⟩ Z)<|z8 (yg Zq jt Z ⟨_, .head⟩ Z)<|AOps.callVP Z (hp _ (qh _) _) Z<|zVGvnot Z<|z6<|zz Z (fun cd=>?_) (fun cd=>?_)
   ·refine zSr<|zVzAb Z<|z6<|ze<|zi (x := .bool _) Z ?_
    rw [qr (ne_at hk2 hk3 (by simpa using cd))]
   ·refine zf<|zRg<|zVzAd Z Z<|zVzMi Z<|z6 ?_
    exact ⟨k + 1, zR4, zR1, ⟨_, (.drop (.drop (.refl _))), rfl⟩, ⟨hk2, take_push hk2 hk3 he (by simpa using cd)⟩, by omega⟩
  ·refine y2<|zSr<|zVzAb Z<|z6<|ze<|zi (x := .bool _) Z ?_
   rw [qq (take_done hl2 (by omega) he)]
theorem samePhi_spec (x y : PPhi) (hx : okPhi x) : AFun prog E 89 [.agg (encPhi x), .agg (encPhi y)] (.bool (decide (x = y))) := by
 obtain ⟨h1, h2⟩ := hx
 rw [phi_iff]
 refine zk func89 Z (by decide) Z<|zSr<|y6 (cs := _) Z Z Z<|y6 (cs := _) Z Z Z<|zVzAb Z<|z6<|zSr<|zVzFF jm Z jd Z Z<|zVzLi jr Z<|zVzFF jm Z jd Z Z<|zVzLi jr Z<|zVGveqlI Z Z<|zVzMb Z<|zo (s := 10) Z (fun c1=>?_) (fun c1=>?_)
 ·refine za Z Z c1<|zVzFF jm Z jn Z Z<|za Z Z c1<|zVzLf jz Z<|za Z Z c1<|zVzFF jm Z jn Z Z<|za Z Z c1<|zVzLf jz Z<|za Z Z c1<|zd (equalI_spec _ _ (by assumption)) Z<|zVzPt Z c1 Z<|zVzMb Z<|zo (s := 17) Z (fun c2=>?_) (fun c2=>?_)
  ·refine za Z Z c2<|zVzFF jm Z jn Z Z<|za Z Z c2<|zVzLf jz Z<|za Z Z c2<|zVzFF jm Z jn Z Z<|za Z Z c2<|zVzLf jz Z<|za Z Z c2<|zd (equalI_spec _ _ (by assumption)) Z<|zVzPt Z c2 Z<|zVzAb Z<|z6<|ze<|zi (x := .bool _) Z ?_
   exact jb (by simp_all)
  ·refine z7 Z Z c2<|z7 Z Z c2<|z7 Z Z c2<|z7 Z Z c2<|z7 Z Z c2<|zVzPf Z c2 Z<|zVzAb Z<|z6<|ze<|zi (x := .bool _) Z ?_
   exact jb (by simp_all)
 ·refine z7 Z Z c1<|z7 Z Z c1<|z7 Z Z c1<|z7 Z Z c1<|z7 Z Z c1<|zVzPf Z c1 Z<|zVzMb Z<|z7 Z Z Z<|z7 Z Z Z<|z7 Z Z Z<|z7 Z Z Z<|z7 Z Z Z<|zVzPf Z Z Z<|zVzAb Z<|z6<|ze<|zi (x := .bool _) Z ?_
  exact jb (by simp_all)
theorem sameInst_spec (x y : PInst) (hx : okL x.args) : AFun prog E 91 [.agg (encInst x), .agg (encInst y)] (.bool (decide (x = y))) := by
 rw [inst_iff]
 refine zk func91 Z (by decide) Z<|zSr<|y6 (cs := _) Z Z Z<|y6 (cs := _) Z Z Z<|zVzAb Z<|z6<|zSr<|zVzFF jk Z Zx Z Z<|zVzLi Y8 Z<|zVzFF jk Z Zx Z Z<|zVzLi Y8 Z<|zVGveqlI Z Z<|zVzMb Z<|zo (s := 10) Z (fun c3=>?_) (fun c3=>?_)
 ·refine za Z Z c3<|zVzFF jk Z jd Z Z<|za Z Z c3<|zVzLi jr Z<|za Z Z c3<|zVzFF jk Z jd Z Z<|za Z Z c3<|zVzLi jr Z<|za Z Z c3<|zVGveqlI Z Z<|zVzPt Z c3 Z<|zVzMb Z<|zo (s := 17) Z (fun c4=>?_) (fun c4=>?_)
  ·refine za Z Z c4<|zVzFF jk Z Yl Z Z<|za Z Z c4<|zVzLi X7 Z<|za Z Z c4<|zVzFF jk Z Yl Z Z<|za Z Z c4<|zVzLi X7 Z<|za Z Z c4<|zVGveqlI Z Z<|zVzPt Z c4 Z<|zVzMb Z<|zo (s := 24) Z (fun c5=>?_) (fun c5=>?_)
   ·refine za Z Z c5<|zVzFF jk Z jn Z Z<|za Z Z c5<|zVzLf jz Z<|za Z Z c5<|zVzFF jk Z jn Z Z<|za Z Z c5<|zVzLf jz Z<|za Z Z c5<|zd (equalI_spec _ _ (by assumption)) Z<|zVzPt Z c5 Z<|zVzAb Z<|z6<|ze<|zi (x := .bool _) Z ?_
    exact jb (by simp_all)
   ·refine z7 Z Z c5<|z7 Z Z c5<|z7 Z Z c5<|z7 Z Z c5<|z7 Z Z c5<|zVzPf Z c5 Z<|zVzAb Z<|z6<|ze<|zi (x := .bool _) Z ?_
    exact jb (by simp_all)
  ·refine z7 Z Z c4<|z7 Z Z c4<|z7 Z Z c4<|z7 Z Z c4<|z7 Z Z c4<|zVzPf Z c4 Z<|zVzMb Z<|z7 Z Z Z<|z7 Z Z Z<|z7 Z Z Z<|z7 Z Z Z<|z7 Z Z Z<|zVzPf Z Z Z<|zVzAb Z<|z6<|ze<|zi (x := .bool _) Z ?_
   exact jb (by simp_all)
 ·refine z7 Z Z c3<|z7 Z Z c3<|z7 Z Z c3<|z7 Z Z c3<|z7 Z Z c3<|zVzPf Z c3 Z<|zVzMb Z<|z7 Z Z Z<|z7 Z Z Z<|z7 Z Z Z<|z7 Z Z Z<|z7 Z Z Z<|zVzPf Z Z Z<|zVzMb Z<|z7 Z Z Z<|z7 Z Z Z<|z7 Z Z Z<|z7 Z Z Z<|z7 Z Z Z<|zVzPf Z Z Z<|zVzAb Z<|z6<|ze<|zi (x := .bool _) Z ?_
  exact jb (by simp_all)
theorem sameBlock_spec (x y : PBlock) (hx : okBlk x) : AFun prog E 54 [.agg (encBlk x), .agg (encBlk y)] (.bool (decide (x = y))) := by
 obtain ⟨h1, h2, h3, h4⟩ := hx
 rw [blk_iff, term_iff]
 refine zk func54 Z (by decide) Z<|zSr<|y6 (cs := _) Z Z Z<|y6 (cs := _) Z Z Z<|zVzAb Z<|z6<|zSr<|zVzFF ja Z jx Z Z<|z8 (ya (c := .str _) Z5 Z)<|zVzFF ja Z jx Z Z<|z8 (ya (c := .str _) Z5 Z)<|z8 (q8 Z Z)<|zVzMb Z<|zo (s := 10) Z (fun c6=>?_) (fun c6=>?_)
 ·refine za Z Z c6<|zVzFF ja Z Z4 Z Z<|za Z Z c6<|zVGvloadWF Ym Z4 Z Z<|za Z Z c6<|zVzFF ja Z Z4 Z Z<|za Z Z c6<|zVGvloadWF Ym Z4 Z Z<|za Z Z c6<|z8 (Gv.eqlP (xs := [.int _ _, .int _ _, .int _ _, .int _ _]) (ys := [.int _ _, .int _ _, .int _ _, .int _ _]) (by kernel_rfl) Z Z (fun w => eq_term _ _ _ _ _ _ _ _ w))<|zVzPt Z c6 Z<|zVzMb Z<|zo (s := 17) Z (fun c7=>?_) (fun c7=>?_)
  ·refine za Z Z c7<|zVzFF ja Z Za Z Z<|za Z Z c7<|zVzLf Zu Z<|za Z Z c7<|zVzFF ja Z Za Z Z<|za Z Z c7<|zVzLf Zu Z<|za Z Z c7<|zd (equalP_spec _ _ h1 (fun p hp q => samePhi_spec p q (h3 p hp))) Z<|zVzPt Z c7 Z<|zVzMb Z<|zo (s := 24) Z (fun c8=>?_) (fun c8=>?_)
   ·refine za Z Z c8<|zVzFF ja Z Zi Z Z<|za Z Z c8<|zVzLf Y1 Z<|za Z Z c8<|zVzFF ja Z Zi Z Z<|za Z Z c8<|zVzLf Y1 Z<|za Z Z c8<|zd (equalX_spec _ _ h2 (fun p hp q => sameInst_spec p q (h4 p hp))) Z<|zVzPt Z c8 Z<|zVzAb Z<|z6<|ze<|zi (x := .bool _) Z ?_
    exact jb (by simp_all)
   ·refine z7 Z Z c8<|z7 Z Z c8<|z7 Z Z c8<|z7 Z Z c8<|z7 Z Z c8<|zVzPf Z c8 Z<|zVzAb Z<|z6<|ze<|zi (x := .bool _) Z ?_
    exact jb (by simp_all)
  ·refine z7 Z Z c7<|z7 Z Z c7<|z7 Z Z c7<|z7 Z Z c7<|z7 Z Z c7<|zVzPf Z c7 Z<|zVzMb Z<|z7 Z Z Z<|z7 Z Z Z<|z7 Z Z Z<|z7 Z Z Z<|z7 Z Z Z<|zVzPf Z Z Z<|zVzAb Z<|z6<|ze<|zi (x := .bool _) Z ?_
   exact jb (by simp_all)
 ·refine z7 Z Z c6<|z7 Z Z c6<|z7 Z Z c6<|z7 Z Z c6<|z7 Z Z c6<|zVzPf Z c6 Z<|zVzMb Z<|z7 Z Z Z<|z7 Z Z Z<|z7 Z Z Z<|z7 Z Z Z<|z7 Z Z Z<|zVzPf Z Z Z<|zVzMb Z<|z7 Z Z Z<|z7 Z Z Z<|z7 Z Z Z<|z7 Z Z Z<|z7 Z Z Z<|zVzPf Z Z Z<|zVzAb Z<|z6<|ze<|zi (x := .bool _) Z ?_
  exact jb (by simp_all)
theorem same_spec (f g : PFunc) (hf : okFunc f) : AFun prog E 22 [.agg (encF f), .agg (encF g)] (.bool (decide (f = g))) := by
 obtain ⟨h1, h2, h3, h4⟩ := hf
 rw [func_iff]
 refine zk func22 Z (by decide) Z<|zSr<|y6 (cs := _) Z Z Z<|y6 (cs := _) Z Z Z<|zVzAb Z<|z6<|zSr<|zVzFF jc Z Z9 Z Z<|zVzLf Zn Z<|zVzFF jc Z Z9 Z Z<|zVzLf Zn Z<|zd (equalV_spec _ _ h1) Z<|zVzMb Z<|zo (s := 10) Z (fun c9=>?_) (fun c9=>?_)
 ·refine za Z Z c9<|zVzFF jc Z jn Z Z<|za Z Z c9<|zVzLf jz Z<|za Z Z c9<|zVzFF jc Z jn Z Z<|za Z Z c9<|zVzLf jz Z<|za Z Z c9<|zd (equalI_spec _ _ (by assumption)) Z<|zVzPt Z c9 Z<|zVzMb Z<|zo (s := 17) Z (fun c10=>?_) (fun c10=>?_)
  ·refine za Z Z c10<|zVzFF jc Z Z2 Z Z<|za Z Z c10<|zVzLf Ze Z<|za Z Z c10<|zVzFF jc Z Z2 Z Z<|za Z Z c10<|zVzLf Ze Z<|za Z Z c10<|zd (equalB_spec _ _ h3 (fun p hp q => sameBlock_spec p q (h4 p hp))) Z<|zVzPt Z c10 Z<|zVzAb Z<|z6<|ze<|zi (x := .bool _) Z ?_
   exact jb (by simp_all)
  ·refine z7 Z Z c10<|z7 Z Z c10<|z7 Z Z c10<|z7 Z Z c10<|z7 Z Z c10<|zVzPf Z c10 Z<|zVzAb Z<|z6<|ze<|zi (x := .bool _) Z ?_
   exact jb (by simp_all)
 ·refine z7 Z Z c9<|z7 Z Z c9<|z7 Z Z c9<|z7 Z Z c9<|z7 Z Z c9<|zVzPf Z c9 Z<|zVzMb Z<|z7 Z Z Z<|z7 Z Z Z<|z7 Z Z Z<|z7 Z Z Z<|z7 Z Z Z<|zVzPf Z Z Z<|zVzAb Z<|z6<|ze<|zi (x := .bool _) Z ?_
  exact jb (by simp_all)
end Go.Proofs.YtbkgklpihnfnjaaGreatDoor
namespace Go.Proofs.YtbkgklpihnfnjaaGreatDoor
open Go.Proofs.Tryz
section
variable {E : World} {P : Program} {env : AEnv} {O : OL} {d ty : Nat} {pos : String} {af : Array Edge} {x y : Operand} {t u e : TypeId}
theorem Gv.rem {k : IntKind} {a b : Int} (hx : aev env x = .int k a) (hy : aev env y = .int k b) (hb : b ≠ 0) : Gv P env O (Oper.mk (some d) (.binOp .rem t x y u) ty pos af none) (.int k (a.tmod b)) := q6 fun I ρ h => ⟨_, rfl, fun w => by
 rw [run_bin_int (evI h hx) (evI h hy) (by decide) (by decide)]; simp [binOp, Op.intDiv, hb]⟩
end
end Go.Proofs.YtbkgklpihnfnjaaGreatDoor
namespace Go.Proofs.YtbkgklpihnfnjaaGreatDoor
open Go.Proofs.Tryz
section
variable {E : World} {P : Program} {n : Nat} {l : List Oper} {W : Nat → Bool} {Q : AEnv → OL → Prop} {fuel : Nat} {listed : Array Bool} {env : AEnv} {O Os Om : OL}
theorem AAny.two {i j : Nat} {o o' : Oper} (hi : l[i]? = some o) (hj : l[j]? = some o') (hr : Region.ready .any l.toArray listed = [i, j])
  (h : AOps P E l.toArray (fun env' Om' => AAny P E l W Q fuel (listed.setIfInBounds i true) env' Os Om') [o] env Om)
  (h' : AOps P E l.toArray (fun env' Om' => AAny P E l W Q fuel (listed.setIfInBounds j true) env' Os Om') [o'] env Om) : AAny P E l W Q (fuel + 1) listed env Os Om := fun I F ρ w Ls h1 hLs h2 => by
 have key : ∀ k ok, AOps P E l.toArray (fun env' Om' => AAny P E l W Q fuel (listed.setIfInBounds k true) env' Os Om') [ok] env Om →
   Ops P l.toArray (fun ρ' w' => (stays I.k [] E w' ∧ (dirty W (listed.setIfInBounds k true) ∨ stays I.k Ls E w')) ∧ AnyV P l.toArray (stays I.k [] E) (stays I.k Ls E) W (postK I F E Q) fuel (listed.setIfInBounds k true) ρ' w') [ok] ρ w := fun k ok h =>
  yu (fun ρ' w' ⟨J, env', Om', a, b, c, d⟩ => by
   have hst : stays I.k Ls E w' := by
    obtain ⟨J', L', h3, h4, h5⟩ := c.here
    exact ⟨J', L', a.k.trans h3, h4, h5⟩
   refine ⟨⟨hst.less, .inr hst⟩, AnyV.mono ?_ ?_ (fun _ _ => postK.up a) _ _ _ _ (d J F ρ' w' Ls b (hLs.mono a) c)⟩
   ·rintro w ⟨J', L', h3, h4⟩; exact ⟨J', L', a.k.trans h3, h4⟩
   ·rintro w ⟨J', L', h3, h4⟩; exact ⟨J', L', a.k.trans h3, h4⟩) _ _ _ (h I (Ls ++ F) ρ w h1 h2)
 refine ⟨fun h0 => (by rw [hr] at h0; cases h0), fun k hk o2 ho2 => ?_⟩
 rw [hr] at hk
 simp only [List.mem_cons, List.not_mem_nil, or_false] at hk
 rw [List.getElem?_toArray] at ho2
 rcases hk with rfl | rfl
 ·rw [hi] at ho2; cases ho2; exact key _ _ h
 ·rw [hj] at ho2; cases ho2; exact key _ _ h'
end
end Go.Proofs.YtbkgklpihnfnjaaGreatDoor
namespace Go.Proofs.YtbkgklpihnfnjaaGreatDoor
open Go.Proofs.Tryz
section
variable {E : World} {P : Program} {n : Nat} {l : List Oper} {W : Nat → Bool} {Q : AEnv → OL → Prop} {fuel : Nat} {listed : Array Bool} {env : AEnv} {O Os Om : OL}
end
theorem ACall.know {E : World} {P : Program} {f : FuncId} {as0 : List AV} {O : OL} {R R' : AV → OL → Prop} (h : ACall P E f as0 O R) (hr : ∀ I F w v x O', R x O' → RepV I x v → SLA I O' F E w → ∃ J y O'', I.le J ∧ RepV J y v ∧ SLA J O'' F E w ∧ R' y O'') : ACall P E f as0 O R' := fun I F w vs h1 h2 =>
 (h I F w vs h1 h2).mono fun v w' ⟨J, x, O', a, b, c, d⟩ => by
  obtain ⟨K, y, O'', e1, e2, e3, e4⟩ := hr J F w' v x O' d b c
  exact ⟨K, y, O'', a.trans e1, e2, e3, e4⟩
end Go.Proofs.YtbkgklpihnfnjaaGreatDoor
namespace Go.Proofs.YtbkgklpihnfnjaaGreatDoor
open Go.Proofs.Tryz
theorem Pick.perm {O O' : OL} {i : Nat} {o : AObj} (h : Pick O i o O') : O.Perm ((i, o) :: O') := by
 induction h with
 | head => exact .refl _
 | tail _ ih => exact (ih.cons _).trans (.swap _ _ _)
section
variable {E : World} {P : Program} {f : FuncId} {as0 : List AV} {O : OL}
theorem ACall.exact {γ : Type} {x : γ → AV} {M : γ → OL} {p : γ → Prop} (h : ACall P E f as0 O (fun y O' => ∃ g, y = x g ∧ Left O' (M g) ∧ p g)) : ACall P E f as0 O (fun y O' => ∃ g, y = x g ∧ O' = M g ∧ p g) :=
 h.know fun I F w v y O' ⟨g, e, hl, hp⟩ h1 h2 => ⟨I, y, M g, .refl _, h1, hl.sla h2, g, e, rfl, hp⟩
theorem ACall.frozen {k m : Nat} {T : TypeId} {rows : List (List AV)} (h : ACall P E f as0 [] (fun y O' => ∃ i : Nat, y = .own i m ∧ Left O' [(i, .grow k T rows.flatten)] ∧ True)) (hk : ∀ r ∈ rows, r.length = k) (hk0 : 0 < k) (hm : rows.length = m) : AFun P E f as0 (.fro k rows) :=
 h.know fun I F w v y O' ⟨i, e, hl, _⟩ h1 h2 => by
  subst e
  obtain ⟨J, h3, h4, h5⟩ := Go.Proofs.YtbkgklpihnfnjaaGreatDoor.know .head hk hk0 hm (hl.sla h2)
  exact ⟨J, _, [], h3, h5 _ h1, h4, rfl⟩
end
end Go.Proofs.YtbkgklpihnfnjaaGreatDoor
namespace Go.Proofs.YtbkgklpihnfnjaaGreatDoor
open Go.Proofs.Tryz
open Go.ChangeShapes Go.WideShapes Go.ChangeAt Go.RowKit Go.Deep
def full (W : World) : Ghost := fun b => W.heap[b]?
theorem full_sl (W : World) : SL (full W) [] W W := ⟨rfl, rfl, rfl, fun _ _ h => h, by simp, by simp, by simp, fun _ _ h => h, (fun _ _ h h2 => by rw [show W.heap[_]? = some _ from h] at h2; cases h2), by simp⟩
def I0 (W : World) : G := ⟨full W, fun _ => none⟩
theorem cell_known {W : World} {p : Addr} {v : Value} (h : W.cell? p = some v) : p = ⟨p.block, p.off, none⟩ ∧ KAt (full W) p.block p.off v := by
 unfold World.cell? at h
 split at h
 ·rename_i c t f hb
  split at h
  ·cases h
  ·rename_i hs
   have : p.spot = none := by simpa using hs
   obtain ⟨b, o, s⟩ := p
   simp only at this
   subst this
   exact ⟨rfl, ⟨c, t, f, hb, h⟩⟩
 ·cases h
def Dec (P : Program) (W : World) (T : TypeId) {α : Type} (enc : α → List AV) (ok : α → Prop) : Prop :=
 ∀ {H : Type} (e : TypeId × Value → H) (held : Bool) (fuel : Nat) (cs : List Value) (x : DataW H × List MemPlace), DataW.trod e P W 0 (fun _ => true) held fuel T cs = some x → ∃ a, ok a ∧ RepL (I0 W) (enc a) cs
section
variable {P : Program} {W : World} {T e : TypeId}
theorem Dec.int {k : IntKind} (hu : P.underlying T = some (.int k)) : Dec P W T (fun x : Int => [.int k x]) (fun x => (Lit.int k x).wf = true) := fun _ _ _ _ _ h => by
 obtain ⟨n, rfl, _, hw⟩ := DataW.trod_int hu h
 exact ⟨n, hw, _, _, rfl, rfl, rfl⟩
theorem Dec.str (hu : P.underlying T = some .string) : Dec P W T (fun x : ByteArray => [.str x]) (fun x => x.size ≤ maxLen) := fun _ _ _ _ _ h => by
 obtain ⟨n, rfl, _, hw⟩ := DataW.trod_string hu h
 exact ⟨n, hw, _, _, rfl, rfl, rfl⟩
theorem Dec.slice {α : Type} {enc : α → List AV} {ok : α → Prop} {k : Nat} (ht : P.underlying T = some (.slice e)) (he : Dec P W e enc ok) (hk : P.cellsOf e = k) (hk0 : 0 < k) :
  Dec P W T (fun xs : List α => [.fro k (xs.map enc)]) (fun xs => (∀ x ∈ xs, ok x) ∧ xs.length ≤ maxLen) := fun en held fuel cs x h => by
 rcases open_slice ht h with ⟨rfl, _⟩ | ⟨a, len, cap, m, n, D, Pl, rfl, _, hl, hc, hm, _, hr⟩
 ·exact ⟨[], ⟨by simp, qg _⟩, _, _, rfl, ⟨none, 0, 0, rfl, rfl, Nat.le_refl _, fun _ => rfl, trivial⟩, rfl⟩
 ·simp only [if_true] at hm
  have each : ∀ i, i < len → ∃ y : α, ok y ∧ ∃ vs : List Value, vs.length = k ∧ RepL (I0 W) (enc y) vs ∧ ∀ j (u : Value), vs[j]? = some u → W.cell? (a.add (i * k + j)) = some u := by
   intro i hi
   obtain ⟨cs, h1, h2⟩ := hr i (by omega)
   rw [hk] at h1
   obtain ⟨_, hcl, hat⟩ := World.cells?_some h1
   obtain ⟨y, hy, hrep⟩ := he en held n cs _ h2
   refine ⟨y, hy, cs, hcl, hrep, fun j u hu => ?_⟩
   have hj : j < k := by have := (List.getElem?_eq_some_iff.1 hu).1; omega
   have := hat j hj
   rw [Go.Deep.add_add] at this
   rw [this, hu]
  by_cases h0 : len = 0
  ·subst h0
   exact ⟨[], ⟨by simp, qg _⟩, _, _, rfl, ⟨some a, 0, cap, rfl, rfl, qg _, fun h => by (cases h), trivial⟩, rfl⟩
  ·obtain ⟨y0, _⟩ := each 0 (by omega)
   have : Inhabited α := ⟨y0⟩
   obtain ⟨Y, hY⟩ := choose_lt each
   have ha : a = ⟨a.block, a.off, none⟩ := by
    obtain ⟨_, vs, hvl, _, hat⟩ := hY 0 (by omega)
    have := hat 0 _ (qd (show 0 < vs.length by omega))
    rw [Nat.zero_mul] at this
    exact (cell_known (by simpa [Addr.add] using this)).1
   refine ⟨(List.range len).map Y, ⟨?_, by simp; omega⟩, _, _, Z, ⟨some a, len, cap, Z, by simp, hl, fun h => by (cases h), RepR.intro fun j r hj => ?_⟩, Z⟩
   ·intro x hx
    obtain ⟨i, hi, rfl⟩ := List.mem_map.1 hx
    exact (hY i (by simpa using hi)).1
   ·rw [ql, ql] at hj
    have hjl : j < len := by
     rcases Nat.lt_or_ge j len with h | h
     ·exact h
     ·rw [List.getElem?_eq_none (by simpa using h)] at hj; cases hj
    rw [List.getElem?_range hjl] at hj
    simp only [Option.map_some, Option.some.injEq] at hj
    subst hj
    obtain ⟨_, vs, hvl, hrep, hat⟩ := hY j hjl
    refine ⟨a.block, a.off, vs, by rw [← ha], hvl, hrep, fun i u hu => ?_⟩
    have := hat i u hu
    rw [ha, addr_add] at this
    have := (cell_known this).2
    rw [Nat.zero_add, Nat.add_assoc]; exact this
theorem RepL.fld {I : G} {cs : List Value} {e es : List AV} {o k : Nat} (h1 : RepL I e ((cs.drop o).take k)) (h2 : RepL I es (cs.drop (o + k))) : RepL I (e ++ es) (cs.drop o) := by
 have := h1.append h2
 rwa [← List.drop_drop, List.take_append_drop] at this
theorem RepL.fin {I : G} {cs : List Value} {o : Nat} (h : cs.length = o) : RepL I [] (cs.drop o) := List.drop_eq_nil_of_le (by omega)
theorem Dec.at {α : Type} {enc : α → List AV} {ok : α → Prop} {f : Field} {H : Type} {en : TypeId × Value → H} {held : Bool} {n o k i : Nat} {cs : List Value} {xs : List (DataW H × List MemPlace)}
  (h1 : DataW.trod en P W 0 (fun _ => true) held n f.type ((cs.drop f.offset).take (P.cellsOf f.type)) = xs[i]?) (hd : Dec P W f.type enc ok) (h2 : i < xs.length) (ho : f.offset = o) (hk : P.cellsOf f.type = k) :
  ∃ a, ok a ∧ RepL (I0 W) (enc a) ((cs.drop o).take k) := by
 rw [qd h2, ho, hk] at h1
 exact hd en held n _ _ h1
theorem Dec.pair {α : Type} {enc : α → List AV} {ok : α → Prop} {k : Nat} (ht : P.underlying T = some (.array 2 e)) (he : Dec P W e enc ok) (hk : P.cellsOf e = k) (hT : P.cellsOf T = k + k) :
  Dec P W T (fun x : α × α => enc x.1 ++ enc x.2) (fun x => ok x.1 ∧ ok x.2) := fun en held fuel cs x h => by
 obtain ⟨xs, m, _, _, hl, hxl, hf⟩ := DataW.trod_array ht h
 have h0 := hf 0 (by omega)
 have h1 := hf 1 (by omega)
 rw [qd (by omega), hk] at h0 h1
 rw [Nat.zero_mul] at h0
 rw [Nat.one_mul] at h1
 obtain ⟨a, ha, ra⟩ := he en held m _ _ h0
 obtain ⟨b, hb, rb⟩ := he en held m _ _ h1
 refine ⟨(a, b), ⟨ha, hb⟩, ?_⟩
 have hcl : cs.length = k + k := by rw [hl, hT]
 have h2 : (cs.drop k).take k = cs.drop k := List.take_of_length_le (by rw [List.length_drop]; omega)
 rw [h2] at rb
 have := ra.append rb
 rw [List.drop_zero, List.take_append_drop] at this
 exact this
end
theorem tabIs_of_reads {P : Program} {W : World} {name : String} {k : IntKind} {zs : List Int} {g : Nat} {t e : TypeId} {n : Nat}
  (hg : P.globalNamed name = some g) (hty : (P.globals[g]?).map (·.type) = some t) (ht : P.underlying t = some (.array n e)) (he : P.underlying e = some (.int k)) (hce : P.cellsOf e = 1) (hct : P.cellsOf t = n)
  (h : Lib.VarReads P W name (Lib.tabData k zs)) : Lib.TabIs P W name k zs := by
 obtain ⟨g', t', cs, fuel, p, hg', ht', hvar, hd⟩ := h
 obtain rfl := Option.some.inj (hg.symm.trans hg')
 obtain rfl := Option.some.inj (hty.symm.trans ht')
 unfold Lib.TabIs
 rw [hvar, ← Lib.cells_of_tab ht he hce hct hd]
theorem AFun.call {P : Program} {W : World} {f : FuncId} {us : List AV} {vs : List Value} {r : AV} (h : AFun P W f us r) (hr : RepL (I0 W) us vs) (hp : r.plain = true) : Calls P f vs.toArray W fun e w' => ∃ v, e = .returned v ∧ RepV (I0 W) r v ∧ Below W.heap.size W w' := by
 have := (h (I0 W) [] W vs hr ⟨⟨0, fun _ _ => rfl⟩, [], rfl, full_sl W⟩).2
 refine this.mono fun e w' ⟨v, he, J, x, O', hle, hx, hS, hxr⟩ => ⟨v, he, ?_, ?_⟩
 ·subst hxr; exact AV.plain_rep hp hx
 ·obtain ⟨_, L, _, hSL⟩ := hS
  exact hSL.belowE
end Go.Proofs.YtbkgklpihnfnjaaGreatDoor
namespace Go.Proofs.YtbkgklpihnfnjaaGreatDoor
open Go.Proofs.Tryz
section
variable {E : World} {P : Program} {n : Nat} {env : AEnv} {O O' O'' : OL} {i k m : Nat} {T : TypeId} {rows rows' : List (List AV)}
end
section
variable {E : World} {P : Program} {f : FuncId} {us bs : List AV} {r : AV}
end
section
variable {E : World} {P : Program} {n : Nat} {ops : Array Oper} {K : AEnv → OL → Prop} {env : AEnv} {O O' : OL} {rest : List Oper}
variable {d ty : Nat} {pos : String} {af : Array Edge} {t e : TypeId} {x y : Operand} {L : List (Nat × Obj)}
end
set_option linter.defProp false
def zp := @Pick.perm
def yx := @RepL.fld
def yy := @AAny.two
end Go.Proofs.YtbkgklpihnfnjaaGreatDoor
