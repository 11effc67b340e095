/- More operations on numbers, bytes. No conditions. -/
import Derived.Test.YtiojekbkamegdaaGreatDoorLb
import Derived.Test.YtiojekbkamegdaaGreatDoorChecked
import Derived.Shelf.Small.Bits
import Derived.Shelf.Strconv.Itoa0
import Derived.Shelf.Sort.Plain
import Derived.Shelf.Unicode.Props
import Derived.Shelf.LaysM
import Derived.Shelf.Unicode.PropsLaid
import Derived.Shelf.Bits.Mul64
import Derived.Shelf.Unicode.Is16White
import Derived.Shelf.Unicode.IsSpaceAny
import Derived.Shelf.Unicode.Is16WhiteD
import Derived.Shelf.Unicode.Is16Any
import Derived.Shelf.Unicode.Is32Any
import Derived.Shelf.Unicode.ExclAny
import Derived.Shelf.Unicode.PredsAny
import Derived.Shelf.Unicode.PredsPay
import Derived.Shelf.Slices.Reverse
import Derived.Ground.Names2Prog
import Derived.Shelf.Slices.Clone
import Derived.Shelf.Slices.SearchI
import Derived.Shelf.Slices.Cells
import Derived.Shelf.Slices.In.SortNone
import Derived.Ground.SlgnProg
import Derived.Shelf.SlicesE.Clone
import Derived.Lib.ItoaLen
import Derived.Lib.Join
import Derived.Laws.BytesArg
set_option linter.unusedVariables false
set_option linter.unusedSimpArgs false
set_option linter.unusedSectionVars false
namespace Go.Proofs.YtiojekbkamegdaaGreatDoor
open Go.Proofs.Tryz
open Go.Proofs
theorem pl318 : Places prog 318 #[(0, 1), (1, 1), (2, 1)] [.str ⟨#[]⟩, .str ⟨#[]⟩, .str ⟨#[]⟩] := ⟨_, _, underlying318, zeroValue318, fun w => by kernel_rfl, rfl⟩
theorem pl344 : PlacesA prog 344 3 [.str ⟨#[]⟩, .str ⟨#[]⟩, .str ⟨#[]⟩, .str ⟨#[]⟩, .str ⟨#[]⟩, .str ⟨#[]⟩, .str ⟨#[]⟩, .str ⟨#[]⟩, .str ⟨#[]⟩, .str ⟨#[]⟩, .str ⟨#[]⟩, .str ⟨#[]⟩, .str ⟨#[]⟩, .str ⟨#[]⟩, .str ⟨#[]⟩, .str ⟨#[]⟩, .str ⟨#[]⟩, .str ⟨#[]⟩, .str ⟨#[]⟩, .str ⟨#[]⟩, .str ⟨#[]⟩, .str ⟨#[]⟩, .str ⟨#[]⟩, .str ⟨#[]⟩, .str ⟨#[]⟩, .str ⟨#[]⟩, .str ⟨#[]⟩, .str ⟨#[]⟩, .str ⟨#[]⟩, .str ⟨#[]⟩, .str ⟨#[]⟩, .str ⟨#[]⟩, .str ⟨#[]⟩, .str ⟨#[]⟩, .str ⟨#[]⟩, .str ⟨#[]⟩, .str ⟨#[]⟩, .str ⟨#[]⟩, .str ⟨#[]⟩, .str ⟨#[]⟩, .str ⟨#[]⟩, .str ⟨#[]⟩, .str ⟨#[]⟩, .str ⟨#[]⟩, .str ⟨#[]⟩, .str ⟨#[]⟩, .str ⟨#[]⟩, .str ⟨#[]⟩, .str ⟨#[]⟩, .str ⟨#[]⟩, .str ⟨#[]⟩, .str ⟨#[]⟩, .str ⟨#[]⟩, .str ⟨#[]⟩, .str ⟨#[]⟩, .str ⟨#[]⟩, .str ⟨#[]⟩, .str ⟨#[]⟩, .str ⟨#[]⟩, .str ⟨#[]⟩, .str ⟨#[]⟩, .str ⟨#[]⟩, .str ⟨#[]⟩, .str ⟨#[]⟩, .str ⟨#[]⟩, .str ⟨#[]⟩, .str ⟨#[]⟩, .str ⟨#[]⟩, .str ⟨#[]⟩, .str ⟨#[]⟩, .str ⟨#[]⟩, .str ⟨#[]⟩, .str ⟨#[]⟩, .str ⟨#[]⟩, .str ⟨#[]⟩, .str ⟨#[]⟩, .str ⟨#[]⟩, .str ⟨#[]⟩, .str ⟨#[]⟩, .str ⟨#[]⟩, .str ⟨#[]⟩] := ⟨_, _, _, underlying344, zeroValue344, sizeOf318, rfl⟩
variable {E : World}
set_option maxRecDepth 20000
def kindT : List (ByteArray × ByteArray × ByteArray) := [(⟨#[99, 111, 110, 115, 116]⟩, ⟨#[]⟩, ⟨#[105]⟩),
 (⟨#[99, 111, 112, 121]⟩, ⟨#[105]⟩, ⟨#[105]⟩),
 (⟨#[97, 100, 100]⟩, ⟨#[105, 105]⟩, ⟨#[105]⟩),
 (⟨#[115, 117, 98]⟩, ⟨#[105, 105]⟩, ⟨#[105]⟩),
 (⟨#[109, 117, 108]⟩, ⟨#[105, 105]⟩, ⟨#[105]⟩),
 (⟨#[100, 105, 118]⟩, ⟨#[105, 105]⟩, ⟨#[105]⟩),
 (⟨#[114, 101, 109]⟩, ⟨#[105, 105]⟩, ⟨#[105]⟩),
 (⟨#[101, 113]⟩, ⟨#[105, 105]⟩, ⟨#[98]⟩),
 (⟨#[108, 116]⟩, ⟨#[105, 105]⟩, ⟨#[98]⟩),
 (⟨#[108, 101]⟩, ⟨#[105, 105]⟩, ⟨#[98]⟩),
 (⟨#[110, 111, 116]⟩, ⟨#[98]⟩, ⟨#[98]⟩),
 (⟨#[97, 110, 100]⟩, ⟨#[98, 98]⟩, ⟨#[98]⟩),
 (⟨#[108, 101, 110]⟩, ⟨#[97]⟩, ⟨#[105]⟩),
 (⟨#[108, 111, 97, 100]⟩, ⟨#[97, 105]⟩, ⟨#[105]⟩),
 (⟨#[115, 116, 111, 114, 101]⟩, ⟨#[97, 105, 105]⟩, ⟨#[]⟩),
 (⟨#[110, 101, 119]⟩, ⟨#[105]⟩, ⟨#[97]⟩),
 (⟨#[110, 105, 108]⟩, ⟨#[]⟩, ⟨#[97]⟩),
 (⟨#[111, 117, 116]⟩, ⟨#[105]⟩, ⟨#[]⟩),
 (⟨#[99, 104, 107, 105, 100, 120]⟩, ⟨#[97, 105]⟩, ⟨#[]⟩),
 (⟨#[99, 104, 107, 110, 105, 108]⟩, ⟨#[97]⟩, ⟨#[]⟩),
 (⟨#[99, 104, 107, 100, 105, 118]⟩, ⟨#[105]⟩, ⟨#[]⟩),
 (⟨#[99, 104, 107, 97, 100, 100]⟩, ⟨#[105, 105]⟩, ⟨#[]⟩),
 (⟨#[99, 104, 107, 115, 117, 98]⟩, ⟨#[105, 105]⟩, ⟨#[]⟩),
 (⟨#[99, 104, 107, 109, 117, 108]⟩, ⟨#[105, 105]⟩, ⟨#[]⟩),
 (⟨#[99, 104, 107, 108, 101, 110]⟩, ⟨#[105]⟩, ⟨#[]⟩),
 (⟨#[112, 105]⟩, ⟨#[105, 105]⟩, ⟨#[105]⟩),
 (⟨#[112, 105, 108, 101, 110]⟩, ⟨#[105, 97]⟩, ⟨#[105]⟩)]
def kRow (op : Int) : ByteArray × ByteArray × ByteArray := if 0 ≤ op then kindT[op.toNat]?.getD (⟨#[]⟩, ⟨#[]⟩, ⟨#[]⟩) else (⟨#[]⟩, ⟨#[]⟩, ⟨#[]⟩)
def isOp (op : Int) : Bool := decide (0 ≤ op) && decide (op < 27)
def encK (r : ByteArray × ByteArray × ByteArray) : List AV := [.str r.1, .str r.2.1, .str r.2.2]
theorem is_spec (op : Int) : AFun prog E 194 [.int .i64 op] (.bool (isOp op)) := by
 refine zp func194 Z (by decide) Z<|zSr<|zVzAb Z<|z2<|zSr<|zVzMi Z<|z8 (qd Z Z)<|zVzMb Z<|zq (s := 5) Z (fun c1=>?_) (fun c1=>?_)
 ·refine z7 Z Z c1<|zVzMi Z<|z7 Z Z c1<|zVGvlss Z Z<|zVzPt Z c1 Z<|zVzAb Z<|z2<|zj<|zk (x := .bool _) Z ?_
  simp_all [isOp] <;> omega
 ·refine z6 Z Z c1<|z6 Z Z c1<|zVzPf Z c1 Z<|zVzAb Z<|z2<|zj<|zk (x := .bool _) Z ?_
  simp_all [isOp] <;> omega
set_option maxHeartbeats 4000000 in
theorem kinds_spec : AFun prog E 281 [] (.agg (kindT.flatMap encK)) := by
 refine zp func281 Z (by decide) Z<|zSr<|zt (cs := [.str ⟨#[]⟩, .str ⟨#[]⟩, .str ⟨#[]⟩, .str ⟨#[]⟩, .str ⟨#[]⟩, .str ⟨#[]⟩, .str ⟨#[]⟩, .str ⟨#[]⟩, .str ⟨#[]⟩, .str ⟨#[]⟩, .str ⟨#[]⟩, .str ⟨#[]⟩, .str ⟨#[]⟩, .str ⟨#[]⟩, .str ⟨#[]⟩, .str ⟨#[]⟩, .str ⟨#[]⟩, .str ⟨#[]⟩, .str ⟨#[]⟩, .str ⟨#[]⟩, .str ⟨#[]⟩, .str ⟨#[]⟩, .str ⟨#[]⟩, .str ⟨#[]⟩, .str ⟨#[]⟩, .str ⟨#[]⟩, .str ⟨#[]⟩, .str ⟨#[]⟩, .str ⟨#[]⟩, .str ⟨#[]⟩, .str ⟨#[]⟩, .str ⟨#[]⟩, .str ⟨#[]⟩, .str ⟨#[]⟩, .str ⟨#[]⟩, .str ⟨#[]⟩, .str ⟨#[]⟩, .str ⟨#[]⟩, .str ⟨#[]⟩, .str ⟨#[]⟩, .str ⟨#[]⟩, .str ⟨#[]⟩, .str ⟨#[]⟩, .str ⟨#[]⟩, .str ⟨#[]⟩, .str ⟨#[]⟩, .str ⟨#[]⟩, .str ⟨#[]⟩, .str ⟨#[]⟩, .str ⟨#[]⟩, .str ⟨#[]⟩, .str ⟨#[]⟩, .str ⟨#[]⟩, .str ⟨#[]⟩, .str ⟨#[]⟩, .str ⟨#[]⟩, .str ⟨#[]⟩, .str ⟨#[]⟩, .str ⟨#[]⟩, .str ⟨#[]⟩, .str ⟨#[]⟩, .str ⟨#[]⟩, .str ⟨#[]⟩, .str ⟨#[]⟩, .str ⟨#[]⟩, .str ⟨#[]⟩, .str ⟨#[]⟩, .str ⟨#[]⟩, .str ⟨#[]⟩, .str ⟨#[]⟩, .str ⟨#[]⟩, .str ⟨#[]⟩, .str ⟨#[]⟩, .str ⟨#[]⟩, .str ⟨#[]⟩, .str ⟨#[]⟩, .str ⟨#[]⟩, .str ⟨#[]⟩, .str ⟨#[]⟩, .str ⟨#[]⟩, .str ⟨#[]⟩]) zeroValue344 Z Z<|fun i0 => z2<|zSr<|z8 (zz (cps := [(0, [_]), (1, [_]), (2, [_])]) (rs := [_, _, _]) pl318 Z Z Z)<|z8 (zz (cps := [(0, [_]), (1, [_]), (2, [_])]) (rs := [_, _, _]) pl318 Z Z Z)<|z8 (zz (cps := [(0, [_]), (1, [_]), (2, [_])]) (rs := [_, _, _]) pl318 Z Z Z)<|z8 (zz (cps := [(0, [_]), (1, [_]), (2, [_])]) (rs := [_, _, _]) pl318 Z Z Z)<|z8 (zz (cps := [(0, [_]), (1, [_]), (2, [_])]) (rs := [_, _, _]) pl318 Z Z Z)<|z8 (zz (cps := [(0, [_]), (1, [_]), (2, [_])]) (rs := [_, _, _]) pl318 Z Z Z)<|z8 (zz (cps := [(0, [_]), (1, [_]), (2, [_])]) (rs := [_, _, _]) pl318 Z Z Z)<|z8 (zz (cps := [(0, [_]), (1, [_]), (2, [_])]) (rs := [_, _, _]) pl318 Z Z Z)<|z8 (zz (cps := [(0, [_]), (1, [_]), (2, [_])]) (rs := [_, _, _]) pl318 Z Z Z)<|z8 (zz (cps := [(0, [_]), (1, [_]), (2, [_])]) (rs := [_, _, _]) pl318 Z Z Z)<|z8 (zz (cps := [(0, [_]), (1, [_]), (2, [_])]) (rs := [_, _, _]) pl318 Z Z Z)<|z8 (zz (cps := [(0, [_]), (1, [_]), (2, [_])]) (rs := [_, _, _]) pl318 Z Z Z)<|z8 (zz (cps := [(0, [_]), (1, [_]), (2, [_])]) (rs := [_, _, _]) pl318 Z Z Z)<|z8 (zz (cps := [(0, [_]), (1, [_]), (2, [_])]) (rs := [_, _, _]) pl318 Z Z Z)<|z8 (zz (cps := [(0, [_]), (1, [_]), (2, [_])]) (rs := [_, _, _]) pl318 Z Z Z)<|z8 (zz (cps := [(0, [_]), (1, [_]), (2, [_])]) (rs := [_, _, _]) pl318 Z Z Z)<|z8 (zz (cps := [(0, [_]), (1, [_]), (2, [_])]) (rs := [_, _, _]) pl318 Z Z Z)<|z8 (zz (cps := [(0, [_]), (1, [_]), (2, [_])]) (rs := [_, _, _]) pl318 Z Z Z)<|z8 (zz (cps := [(0, [_]), (1, [_]), (2, [_])]) (rs := [_, _, _]) pl318 Z Z Z)<|z8 (zz (cps := [(0, [_]), (1, [_]), (2, [_])]) (rs := [_, _, _]) pl318 Z Z Z)<|z8 (zz (cps := [(0, [_]), (1, [_]), (2, [_])]) (rs := [_, _, _]) pl318 Z Z Z)<|z8 (zz (cps := [(0, [_]), (1, [_]), (2, [_])]) (rs := [_, _, _]) pl318 Z Z Z)<|z8 (zz (cps := [(0, [_]), (1, [_]), (2, [_])]) (rs := [_, _, _]) pl318 Z Z Z)<|z8 (zz (cps := [(0, [_]), (1, [_]), (2, [_])]) (rs := [_, _, _]) pl318 Z Z Z)<|z8 (zz (cps := [(0, [_]), (1, [_]), (2, [_])]) (rs := [_, _, _]) pl318 Z Z Z)<|z8 (zz (cps := [(0, [_]), (1, [_]), (2, [_])]) (rs := [_, _, _]) pl318 Z Z Z)<|z8 (zz (cps := [(0, [_]), (1, [_]), (2, [_])]) (rs := [_, _, _]) pl318 Z Z Z)<|z8 (Gv.buildAF (xs := [[_, _, _], [_, _, _], [_, _, _], [_, _, _], [_, _, _], [_, _, _], [_, _, _], [_, _, _], [_, _, _], [_, _, _], [_, _, _], [_, _, _], [_, _, _], [_, _, _], [_, _, _], [_, _, _], [_, _, _], [_, _, _], [_, _, _], [_, _, _], [_, _, _], [_, _, _], [_, _, _], [_, _, _], [_, _, _], [_, _, _], [_, _, _]]) pl344 Z Z Z Z)<|zn sizeOf344 Z Z Z Z Z Z .head Z<|z2<|zj<|afin.c1 Z ⟨_, .head⟩ isAgg344 sizeOf344 Z ?_
 rfl
theorem kRow_out {op : Int} (h : isOp op = false) : kRow op = (⟨#[]⟩, ⟨#[]⟩, ⟨#[]⟩) := by
 unfold isOp at h
 unfold kRow
 split
 ·rename_i h0
  have : ¬ op < 27 := by simpa [h0] using h
  rw [List.getElem?_eq_none (by show 27 ≤ _; omega)]; rfl
 ·rfl
theorem kRow_at {op : Int} (h : isOp op = true) : ∃ j : Nat, op = (j : Int) ∧ j < 27 ∧ ((kindT.flatMap encK).drop (j * 3)).take 3 = encK (kRow op) := by
 unfold isOp at h
 simp at h
 obtain ⟨j, rfl⟩ : ∃ j : Nat, op = j := ⟨op.toNat, by omega⟩
 have hj : j < 27 := by omega
 refine ⟨j, Z, hj, flat_at (enc := encK) (k := 3) (fun _ => Z) _ _ ?_⟩
 unfold kRow
 rw [if_pos h.1, Int.toNat_natCast, qq (show j < kindT.length from hj)]; rfl
theorem of_spec (op : Int) : AFun prog E 262 [.int .i64 op] (.agg (encK (kRow op))) := by
 refine zp func262 Z (by decide) Z<|zSr<|zt (cs := [.str ⟨#[]⟩, .str ⟨#[]⟩, .str ⟨#[]⟩]) zeroValue318 Z Z<|fun i2 => z2<|zc<|zSr<|zVzMi Z<|zg (is_spec _) Z<|zVGvnot Z<|z2<|zu Z (fun c=>?_) (fun c=>?_)
 ·have c : isOp op = false := by simpa using c
  rw [kRow_out c]
  refine zSr<|z8 (zz (cps := []) (rs := [.str ⟨#[]⟩, .str ⟨#[]⟩, .str ⟨#[]⟩]) pl318 Z Z Z)<|zn sizeOf318 Z Z Z Z Z Z .head Z<|z2<|zj<|afin.c1 Z ⟨_, .head⟩ isAgg318 sizeOf318 Z ?_
  rfl
 ·have c : isOp op = true := by simpa using c
  obtain ⟨j, hj1, hj2, hj3⟩ := kRow_at c
  refine zf<|zSr<|zg (kinds_spec) Z<|zVzMi Z<|z8 (Gv.indexA underlying344 isAgg318 sizeOf318 Z Z hj1 hj2 hj3)<|zn sizeOf318 Z Z Z Z Z Z .head Z<|z2<|zj<|afin.c1 Z ⟨_, .head⟩ isAgg318 sizeOf318 Z ?_
  rfl
theorem word_spec (op : Int) : AFun prog E 260 [.int .i64 op] (.str (kRow op).1) := by
 refine zp func260 Z (by decide) Z<|zSr<|z8 (qf (v := .str _) Z)<|z2<|zSr<|zVzMi Z<|zg (of_spec _) Z<|z8 (Gv.field1 (v := .str _) underlying318 Z Y0 Z Z)<|z8 (qf (v := .str _) Z)<|z2<|zj<|zk (x := .str _) Z ?_
 rfl
def isNum (op : Int) : Bool := decide (op = 0) || decide (op = 25)
theorem numbered_spec (op : Int) : AFun prog E 261 [.int .i64 op] (.bool (isNum op)) := by
 refine zp func261 Z (by decide) Z<|zSr<|zVzAb Z<|z2<|zSr<|zVzMi Z<|zVGveqlI Z Z<|zVzMb Z<|zq (s := 5) Z (fun c2=>?_) (fun c2=>?_)
 ·refine z6 Z Z c2<|z6 Z Z c2<|zVzPt Z c2 Z<|zVzAb Z<|z2<|zj<|zk (x := .bool _) Z ?_
  simp_all [isNum]
 ·refine z7 Z Z c2<|zVzMi Z<|z7 Z Z c2<|zVGveqlI Z Z<|zVzPf Z c2 Z<|zVzAb Z<|z2<|zj<|zk (x := .bool _) Z ?_
  simp_all [isNum]
def typeOf (c : Int) : Int := if c = 98 then 1 else if c = 97 then 2 else 0
theorem typed_spec (c : Int) : AFun prog E 263 [.int .i32 c] (.int .i64 (typeOf c)) := by
 refine zp func263 Z (by decide) Z<|zSr<|zVzAi Z<|z2<|zc<|zSr<|zVzMi Z<|z2<|zi<|zSr<|zVGveqlI Z Z<|zVzAb Z<|z2<|zu Z (fun c3=>?_) (fun c3=>?_)
 ·refine zSr<|zVzAi Z<|z2<|zj<|zk (x := .int _ _) Z ?_
  simp_all [typeOf]
 ·refine zSr<|zVGveqlI Z Z<|zVzAb Z<|z2<|zu Z (fun c4=>?_) (fun c4=>?_)
  ·refine zSr<|zVzAi Z<|z2<|zj<|zk (x := .int _ _) Z ?_
   simp_all [typeOf]
  ·refine zf<|zSr<|zVzAi Z<|z2<|zj<|zk (x := .int _ _) Z ?_
   simp_all [typeOf]
theorem kT_ascii : ∀ r ∈ kindT, (∀ b ∈ r.2.1.data.toList, b < 128) ∧ (∀ b ∈ r.2.2.data.toList, b < 128) := by decide
theorem kRow_mem (op : Int) : kRow op = (⟨#[]⟩, ⟨#[]⟩, ⟨#[]⟩) ∨ kRow op ∈ kindT := by
 unfold kRow
 split
 ·cases h : kindT[op.toNat]? with
  | none => exact .inl rfl
  | some r => exact .inr (w1 h)
 ·exact .inl rfl
theorem kRow_ascii (op : Int) : (∀ b ∈ (kRow op).2.1.data.toList, b < 128) ∧ (∀ b ∈ (kRow op).2.2.data.toList, b < 128) := by
 rcases kRow_mem op with h | h
 ·rw [h]; simp
 ·exact kT_ascii _ h
def takesL (op : Int) : List Int := (kRow op).2.1.data.toList.map fun b => typeOf b.toNat
def makesT (op : Int) : Int := ((kRow op).2.2.data.toList.head?.map fun b => typeOf b.toNat).getD 0
def makesB (op : Int) : Bool := !(kRow op).2.2.data.toList.isEmpty
end Go.Proofs.YtiojekbkamegdaaGreatDoor
namespace Go.Proofs.YtiojekbkamegdaaGreatDoor
open Go.Proofs.Tryz
open Go.Proofs
theorem ps286_1 : PlacesS prog 286 77 1 1 [.int .i64 0] := ⟨_, underlying286, X5, zeroValue77, by decide, by decide, by kernel_rfl⟩
variable {E : World}
set_option maxRecDepth 20000
structure PVar where
 name : ByteArray
 ty : Int
deriving DecidableEq
structure PPhi where
 dst : Int
 args : List Int
 from_ : List Int
deriving DecidableEq
structure PInst where
 op : Int
 dst : Int
 args : List Int
 num : Int
deriving DecidableEq
structure PTerm where
 kind : Int
 var : Int
 to0 : Int
 to1 : Int
deriving DecidableEq
structure PBlock where
 name : ByteArray
 phis : List PPhi
 insts : List PInst
 term : PTerm
deriving DecidableEq
structure PFunc where
 vars : List PVar
 params : List Int
 blocks : List PBlock
deriving DecidableEq
def encI (x : Int) : List AV := [.int .i64 x]
def encVar (v : PVar) : List AV := [.str v.name, .int .i64 v.ty]
def encPhi (p : PPhi) : List AV := [.int .i64 p.dst, .fro 1 (p.args.map encI), .fro 1 (p.from_.map encI)]
def encInst (x : PInst) : List AV := [.int .i64 x.op, .int .i64 x.dst, .fro 1 (x.args.map encI), .int .i64 x.num]
def encTerm (t : PTerm) : List AV := [.int .i64 t.kind, .int .i64 t.var, .int .i64 t.to0, .int .i64 t.to1]
def encBlk (b : PBlock) : List AV := [.str b.name, .fro 3 (b.phis.map encPhi), .fro 4 (b.insts.map encInst), .int .i64 b.term.kind, .int .i64 b.term.var, .int .i64 b.term.to0, .int .i64 b.term.to1]
def encF (f : PFunc) : List AV := [.fro 2 (f.vars.map encVar), .fro 1 (f.params.map encI), .fro 7 (f.blocks.map encBlk)]
theorem takes_spec (op : Int) : AFun prog E 224 [.int .i64 op] (.fro 1 ((takesL op).map encI)) := by
 obtain ⟨hasc, _⟩ := kRow_ascii op
 have hl : (takesL op).length = (kRow op).2.1.size := by unfold takesL; rw [qx]; exact Array.length_toList
 have hlen : (takesL op).length ≤ 3 := by
  rcases kRow_mem op with h | h
  ·unfold takesL; rw [h]; decide
  ·have : ∀ r ∈ kindT, r.2.1.data.toList.length ≤ 3 := by decide
   have := this _ h
   unfold takesL; simpa using this
 refine zp func224 Z (by decide) Z<|zSr<|z8 (zAr Z)<|z2<|zSr<|z8 (zAr Z)<|z2<|adopt_wp (t := 3) (k := 1) (T := 77) Z<|fun i3 => zc<|zSr<|zVzMi Z<|zg (of_spec _) Z<|z8 (Gv.field1 (v := .str _) underlying318 Z Y0 Z Z)<|AOps.rangeT Zi Z<|fun i9 => z2<|zi<|y7 (γ := Nat × Nat) [9] (fun g => [(3, .own g.2 g.1)]) (fun g => [(i9, .iter (kRow op).2.1 g.1), (g.2, .grow 1 77 (((takesL op).take g.1).map encI).flatten)]) (fun g => g.1 ≤ (takesL op).length) (fun g => (takesL op).length - g.1) (0, i3) zR1 zLe (qt _) ?_
 rintro ⟨p, i⟩ hp
 try dsimp only at *
 try simp only at hp
 by_cases hlt : p < (takesL op).length
 ·have hb : p < (kRow op).2.1.data.toList.length := by rw [hl] at hlt; exact hlt
  have hg : (kRow op).2.1.data[p]? = some (kRow op).2.1.data.toList[p] := by rw [Array.getElem_toList]; exact Array.getElem?_eq_getElem hb
  refine zSr<|AOps.nextA Z hg (hasc _ (qu hb)) .head<|z8 (zXb Z Z)<|z2<|zc<|yq Z Z ?_
  have ht : (takesL op).take (p + 1) = (takesL op).take p ++ [typeOf ((kRow op).2.1.data.toList[p]).toNat] := by
   rw [qr hlt]
   have : (takesL op)[p] = typeOf ((kRow op).2.1.data.toList[p]).toNat := List.getElem_map _
   rw [this]
  refine zf<|zi<|zSr<|z8 (zXi Z Z)<|zVzAi Z<|z2<|zRg<|z8 (zMo Z)<|zVzMi Z<|zg (typed_spec _) Z<|zx (rows := [[_]]) ps286_1 Z Z Z Z Z<|ym (k := 1) underlying286 type77 Z Z Z Z Z (fun _ => .t1) (by rw [grow_len (k := 1) (fun _ => rfl), w3, Nat.min_eq_left hp]) (by decide) Z (by show (_ + _) * 8 ≤ _; simp <;> omega) (by simp <;> omega)<|fun i17 => z8 (zAo Z)<|z2 ?_
  exact ⟨(p + 1, i17), zR1, zR1, ⟨_, (.refl _), by rw [← grow_push ht]; rfl⟩, hlt, by simp only; omega⟩
 ·refine zSr<|AOps.nextTover Z .head (by rw [← hl]; exact hlt)<|z8 (zXb Z Z)<|z2<|zc<|yj Z Z ?_
  have hkn : p = (takesL op).length := by omega
  subst hkn
  rw [qv]
  refine y6<|zSr<|z8 (zMo Z)<|z8 (zAo Z)<|z2<|zj ?_
  repeat (first | refine aseqQ_ret ?_ | refine ablockQ_ret ?_)
  refine yx (GStep.know (t := 2) (rows := (takesL op).map encI) Z .t1 (by first | (intro r hr; obtain ⟨x, _, rfl⟩ := List.mem_map.1 hr; rfl) | simp [encI, encVar, encPhi, encInst, encBlk]) (by decide) (by simp))<|zk (x := .fro _ _) Z ?_
  rfl
theorem makes_spec (op : Int) : AFun prog E 225 [.int .i64 op] (.tup [.int .i64 (makesT op), .bool (makesB op)]) := by
 obtain ⟨_, hasc⟩ := kRow_ascii op
 refine zp func225 Z (by decide) Z<|zSr<|zVzAi Z<|zVzAb Z<|z2<|zc<|zSr<|zVzMi Z<|zg (of_spec _) Z<|z8 (Gv.field1 (v := .str _) underlying318 Z Y0 Z Z)<|AOps.rangeT Zi Z<|fun i9 => z2<|zi<|y7 (γ := Unit) [9] (fun g => []) (fun g => [(i9, .iter (kRow op).2.2 0)]) (fun g => True) (fun g => 0) () trivial zLe (trivial) ?_
 rintro _ _
 by_cases hlt : ∃ c0 tl, (kRow op).2.2.data.toList = c0 :: tl
 ·obtain ⟨c0, tl, hk⟩ := hlt
  have hg : (kRow op).2.2.data[0]? = some c0 := by rw [← Array.getElem?_toList, hk]; rfl
  refine zSr<|AOps.nextA Z hg (hasc _ (by rw [hk]; exact .head _)) .head<|z8 (zXb Z Z)<|z2<|zc<|yq Z Z<|zf<|zi<|zSr<|z8 (zXi Z Z)<|zVzAi Z<|z2<|zSr<|zVzMi Z<|zg (typed_spec _) Z<|zVzAi Z<|zVzAb Z<|z2<|zj<|afin.t2 (x := .int _ _) (y := .bool _) Z Z ?_
  unfold makesT makesB; rw [hk]; rfl
 ·have hk : (kRow op).2.2.data.toList = [] := by
   cases h : (kRow op).2.2.data.toList with
   | nil => rfl
   | cons x l => exact absurd ⟨x, l, h⟩ hlt
  refine zSr<|AOps.nextTover Z .head (by show ¬ 0 < (kRow op).2.2.data.size; rw [← Array.length_toList, hk]; decide)<|z8 (zXb Z Z)<|z2<|zc<|yj Z Z<|y6<|zSr<|zVzAi Z<|zVzAb Z<|z2<|zj<|afin.t2 (x := .int _ _) (y := .bool _) Z Z ?_
  unfold makesT makesB; rw [hk]; rfl
def hasV (f : PFunc) (v : Int) : Bool := decide (0 ≤ v) && decide (v < f.vars.length)
def hasB (f : PFunc) (b : Int) : Bool := decide (0 ≤ b) && decide (b < f.blocks.length)
theorem has_spec (f : PFunc) (v : Int) : AFun prog E 256 [.agg (encF f), .int .i64 v] (.bool (hasV f v)) := by
 refine zp func256 Z (by decide) Z<|zSr<|yc (cs := _) Z Z Z<|zVzAb Z<|z2<|zSr<|zVzMi Z<|z8 (qd Z Z)<|zVzMb Z<|zq (s := 7) Z (fun c1=>?_) (fun c1=>?_)
 ·refine z7 Z Z c1<|zVzMi Z<|z7 Z Z c1<|zVzFF jh Z Ya Z Z<|z7 Z Z c1<|zVzLf Yk Z<|z7 Z Z c1<|zVGvlenM Z4 Z<|z7 Z Z c1<|zVGvlss Z Z<|zVzPt Z c1 Z<|zVzAb Z<|z2<|zj<|zk (x := .bool _) Z ?_
  simp_all [hasV] <;> omega
 ·refine z6 Z Z c1<|z6 Z Z c1<|z6 Z Z c1<|z6 Z Z c1<|z6 Z Z c1<|zVzPf Z c1 Z<|zVzAb Z<|z2<|zj<|zk (x := .bool _) Z ?_
  simp_all [hasV] <;> omega
theorem at_spec (f : PFunc) (v : Int) : AFun prog E 259 [.agg (encF f), .int .i64 v] (.bool (hasB f v)) := by
 refine zp func259 Z (by decide) Z<|zSr<|yc (cs := _) Z Z Z<|zVzAb Z<|z2<|zSr<|zVzMi Z<|z8 (qd Z Z)<|zVzMb Z<|zq (s := 7) Z (fun c2=>?_) (fun c2=>?_)
 ·refine z7 Z Z c2<|zVzMi Z<|z7 Z Z c2<|zVzFF jh Z Z1 Z Z<|z7 Z Z c2<|zVzLf Z8 Z<|z7 Z Z c2<|zVGvlenM jl Z<|z7 Z Z c2<|zVGvlss Z Z<|zVzPt Z c2 Z<|zVzAb Z<|z2<|zj<|zk (x := .bool _) Z ?_
  simp_all [hasB] <;> omega
 ·refine z6 Z Z c2<|z6 Z Z c2<|z6 Z Z c2<|z6 Z Z c2<|z6 Z Z c2<|zVzPf Z c2 Z<|zVzAb Z<|z2<|zj<|zk (x := .bool _) Z ?_
  simp_all [hasB] <;> omega
def firstI {α : Type} (p : α → Bool) : List α → Nat → Int
 | [], _ => -1
 | x :: xs, k => if p x then k else firstI p xs (k + 1)
theorem firstI_ge {α : Type} (p : α → Bool) : ∀ (xs : List α) (k : Nat), decide (0 ≤ firstI p xs k) = xs.any p
 | [], k => rfl
 | x :: xs, k => by
  unfold firstI
  rw [List.any_cons]
  split
  ·rename_i h; rw [h]; simp
  ·rename_i h; simp [h, firstI_ge p xs (k + 1)]
theorem firstI_drop {α : Type} (p : α → Bool) : ∀ (xs : List α) (k : Nat), k ≤ xs.length → (xs.take k).all (fun x => !p x) = true → firstI p xs 0 = firstI p (xs.drop k) k
 | _, 0, _, _ => rfl
 | xs, k + 1, h, hall => by
  rw [qr (by omega), List.all_append] at hall
  simp only [w6, List.all_cons, List.all_nil, Bool.and_true] at hall
  rw [firstI_drop p xs k (by omega) hall.1, List.drop_eq_getElem_cons (by omega)]
  rw [firstI]
  rw [if_neg (by simpa using hall.2)]
theorem indexFuncI_spec {p : Int → Bool} {fn : FuncId} {c : List AV} (xs : List Int) (hl : xs.length ≤ 281474976710656) (hp : ∀ x, AFun prog E fn ([.int .i64 x] ++ c) (.bool (p x))) :
  AFun prog E 187 [.fro 1 (xs.map encI), .fn fn [] c] (.int .i64 (firstI p xs 0)) := by
 refine zp func187 Z (by decide) Z<|zSr<|zVzAi Z<|z2<|zc<|zSr<|zVzMf Z<|zVGvlenM j6 Z<|zVzMi Z<|z2<|zi<|y7 (γ := Nat) [0, 1, 7] (fun k => [(8, .int .i64 k)]) (fun k => []) (fun k => k ≤ xs.length ∧ (xs.take k).all (fun x => !p x)) (fun k => xs.length - k) 0 zR1 zLe (⟨qt _, Z⟩) ?_
 rintro k ⟨hk, hall⟩
 refine zSr<|zVGvlss Z Z<|z2<|zc<|zo Z (fun ck=>?_) (fun ck=>?_)
 ·have hk2 : k < xs.length := by omega
  refine zf<|zc<|zi<|zSr<|zVzMi Z<|zVzAi Z<|z2<|zSr<|z8 (yw (v := .fn _ _ _) Z)<|zVzMf Z<|zVzMi Z<|z8 (q7 j6 j7 Z Z Z (qq (by omega)))<|zVzLi j9 Z<|AOps.callVP Z (hp _) Z<|z2<|zu Z (fun cp=>?_) (fun cp=>?_)
  ·refine zSr<|zVzMi Z<|zVzAi Z<|z2<|zj<|zk (x := .int _ _) Z ?_
   rw [firstI_drop p xs k hk hall, List.drop_eq_getElem_cons hk2, firstI, if_pos cp]
  ·refine zf<|zRg<|zVzAd Z Z<|zVzMi Z<|z2 ?_
   exact ⟨k + 1, zR3, zR1, zLe, ⟨hk2, by rw [qr hk2, List.all_append, hall]; simp [cp]⟩, by omega⟩
 ·have hkn : k = xs.length := by omega
  refine y6<|zSr<|zVzAi Z<|z2<|zj<|zk (x := .int _ _) Z ?_
  rw [firstI_drop p xs k hk hall, hkn, List.drop_length, firstI]
theorem containsFuncI_spec {p : Int → Bool} {fn : FuncId} {c : List AV} (xs : List Int) (hl : xs.length ≤ 281474976710656) (hp : ∀ x, AFun prog E fn ([.int .i64 x] ++ c) (.bool (p x))) :
  AFun prog E 148 [.fro 1 (xs.map encI), .fn fn [] c] (.bool (xs.any p)) := by
 refine zp func148 Z (by decide) Z<|zSr<|zVzAb Z<|z2<|zSr<|zVzMf Z<|z8 (yw (v := .fn _ _ _) Z)<|zg (indexFuncI_spec xs hl hp) Z<|z8 (qd Z Z)<|zVzAb Z<|z2<|zj<|zk (x := .bool _) Z ?_
 rw [firstI_ge]
theorem vars1_spec (f : PFunc) (v : Int) : AFun prog E 280 ([.int .i64 v] ++ [.pf (encF f)]) (.bool (!hasV f v)) := by
 refine zp func280 Z (by decide) Z<|zSr<|zVzAb Z<|z2<|zSr<|zVGvloadWF jq jj Z Z<|zVzMi Z<|zg (has_spec _ _) Z<|zVGvnot Z<|zVzAb Z<|z2<|zj<|zk (x := .bool _) Z ?_
 rfl
theorem vars_spec (f : PFunc) (l : List Int) (hl : l.length ≤ 281474976710656) : AFun prog E 257 [.agg (encF f), .fro 1 (l.map encI)] (.bool (l.all (hasV f))) := by
 refine zp func257 Z (by decide) Z<|zSr<|yc (cs := _) Z Z Z<|zVzAb Z<|z2<|zSr<|zVzMf Z<|z8 (Gv.func Z Z)<|zg (containsFuncI_spec l hl (vars1_spec f)) Z<|zVGvnot Z<|zVzAb Z<|z2<|zj<|zk (x := .bool _) Z ?_
 rw [List.any_eq_not_all_not]; simp
end Go.Proofs.YtiojekbkamegdaaGreatDoor
namespace Go.Proofs.YtiojekbkamegdaaGreatDoor
open Go.Proofs.Tryz
open Go.Proofs
variable {E : World}
set_option maxRecDepth 20000
def okL {α : Type} (l : List α) : Prop := l.length ≤ 140737488355328
def okPhi (p : PPhi) : Prop := okL p.args ∧ okL p.from_
def okBlk (b : PBlock) : Prop := okL b.phis ∧ okL b.insts ∧ (∀ p ∈ b.phis, okPhi p) ∧ (∀ x ∈ b.insts, okL x.args)
def okFunc (f : PFunc) : Prop := okL f.vars ∧ okL f.params ∧ okL f.blocks ∧ ∀ b ∈ f.blocks, okBlk b
theorem okL.lt {α : Type} {l : List α} (h : okL l) : l.length ≤ 140737488355328 := h
theorem jb {x y : Bool} (h : x = y) : AV.bool x = AV.bool y := congrArg AV.bool h
theorem impNil (k : Nat) : ∀ I v, RepV I (.raw (.slice none 0 0)) v → RepV I (.fro k []) v := fun _ _ h => ⟨none, 0, 0, h, rfl, Nat.le_refl _, fun _ => rfl, trivial⟩
theorem eq_arr (a b c d : Int) (w : World) (m : Nat) : (Op.equalIn (m + 2) 54 (.agg [.int .i64 a, .int .i64 b].toArray) (.agg [.int .i64 c, .int .i64 d].toArray)).run prog w = .ok (decide (a = c ∧ b = d)) w := by
 rw [Op.equalIn]
 simp only [Sem.run_bind, run_underlying jy, Result.andThen_ok]
 simp only [Std.Legacy.Range.forIn_eq_forIn_range', Std.Legacy.Range.size, Nat.sub_zero, Nat.add_sub_cancel, Nat.div_one, List.range'_succ, List.range'_zero, List.forIn_cons, List.forIn_nil]
 simp [part, j9, j7, run_equalIn_int, Y7]
 by_cases h1 : a = c <;> by_cases h2 : b = d <;> simp [h1, h2]
theorem equalI_spec (xs ys : List Int) (hl : okL xs) : AFun prog E 56 [.fro 1 (xs.map encI), .fro 1 (ys.map encI)] (.bool (decide (xs = ys))) := by
 have hl := hl.lt
 refine zp func56 Z (by decide) Z<|zSr<|zVzAb Z<|z2<|zc<|zSr<|zVzMf Z<|zVGvlenM j6 Z<|zVzMf Z<|zVGvlenM j6 Z<|zVGvneqI Z Z<|z2<|zu Z (fun c0=>?_) (fun c0=>?_)
 ·have h : ¬ xs = ys := fun e => by subst e; simp at c0
  refine zSr<|zVzAb Z<|z2<|zj<|zk (x := .bool _) Z ?_
  rw [w5 h]
 ·have hl2 : xs.length = ys.length := by simp at c0; omega
  refine zf<|zc<|zSr<|zVzMf Z<|zVGvlenM j6 Z<|zVzMi Z<|z2<|zi<|y7 (γ := Nat) [0, 1, 12] (fun k => [(13, .int .i64 k)]) (fun k => []) (fun k => k ≤ xs.length ∧ xs.take k = ys.take k) (fun k => xs.length - k) 0 zR1 zLe (⟨qt _, Z⟩) ?_
  rintro k ⟨hk, he⟩
  refine zSr<|zVGvlss Z Z<|z2<|zc<|zo Z (fun ck=>?_) (fun ck=>?_)
  ·have hk2 : k < xs.length := by omega
   have hk3 : k < ys.length := by omega
   refine zf<|zc<|zi<|zSr<|zVzMi Z<|zVzAi Z<|z2<|zc<|zr (fun j => false) (by kernel_rfl) Z (zm (.rest _))<|zTk 0 Z (zMf Z)<|zTk 1 Z (zMi Z)<|zTk 2 Z (q7 j6 j7 Z Z Z (qq (by omega)))<|zTk 3 Z (zLi j9 Z)<|zTk 4 Z (zMf Z)<|zTk 5 Z (zMi Z)<|zTk 6 Z (q7 j6 j7 Z Z Z (qq (by omega)))<|zTk 7 Z (zLi j9 Z)<|zTk 8 Z (Gv.neqI Z Z)<|zDn<|zu Z (fun cd=>?_) (fun cd=>?_)
   ·refine zSr<|zVzAb Z<|z2<|zj<|zk (x := .bool _) Z ?_
    rw [w5 (ne_at hk2 hk3 (by simpa using cd))]
   ·refine zf<|zRg<|zVzAd Z Z<|zVzMi Z<|z2 ?_
    exact ⟨k + 1, zR3, zR1, zLe, ⟨hk2, take_push hk2 hk3 he (by simpa using cd)⟩, by omega⟩
  ·refine y6<|zSr<|zVzAb Z<|z2<|zj<|zk (x := .bool _) Z ?_
   rw [w4 (take_done hl2 (by omega) he)]
end Go.Proofs.YtiojekbkamegdaaGreatDoor
namespace Go.Proofs
open Go.Shelf
def Tryz.lays189_ren : Go.Shelf.Ren := ⟨fun | 189 => 155 | 125 => 192 | 257 => 191 | 128 => 236 | 129 => 237 | 294 => 227 | 295 => 228 | 296 => 229 | 297 => 230 | 298 => 231 | 299 => 232 | 216 => 233 | 300 => 234 | 301 => 235 | 328 => 264 | 329 => 265 | 330 => 266 | 331 => 267 | 332 => 268 | 215 => 269 | 343 => 282 | n => n, fun | 28 => 23 | 3 => 3 | 46 => 223 | 0 => 0 | 51 => 262 | 53 => 265 | 4 => 4 | 183 => 293 | 182 => 292 | 131 => 165 | 5 => 5 | 9 => 9 | 218 => 321 | 222 => 325 | 228 => 346 | 229 => 93 | n => n, fun | n => n⟩
theorem Tryz.lays189 : Go.Proofs.Lays.n189 prog Tryz.lays189_ren := {
 mixed := by kernel_rfl
 f125 := func192.trans (congrArg some (by kernel_rfl))
 f128 := func236.trans (congrArg some (by kernel_rfl))
 f129 := func237.trans (congrArg some (by kernel_rfl))
 f189 := func155.trans (congrArg some (by kernel_rfl))
 f215 := func269.trans (congrArg some (by kernel_rfl))
 f216 := func233.trans (congrArg some (by kernel_rfl))
 f257 := func191.trans (congrArg some (by kernel_rfl))
 f294 := func227.trans (congrArg some (by kernel_rfl))
 f295 := func228.trans (congrArg some (by kernel_rfl))
 f296 := func229.trans (congrArg some (by kernel_rfl))
 f297 := func230.trans (congrArg some (by kernel_rfl))
 f298 := func231.trans (congrArg some (by kernel_rfl))
 f299 := func232.trans (congrArg some (by kernel_rfl))
 f300 := func234.trans (congrArg some (by kernel_rfl))
 f301 := func235.trans (congrArg some (by kernel_rfl))
 f328 := func264.trans (congrArg some (by kernel_rfl))
 f329 := func265.trans (congrArg some (by kernel_rfl))
 f330 := func266.trans (congrArg some (by kernel_rfl))
 f331 := func267.trans (congrArg some (by kernel_rfl))
 f332 := func268.trans (congrArg some (by kernel_rfl))
 f343 := func282.trans (congrArg some (by kernel_rfl))
 t0 := underlying0
 a0 := isAgg0
 z0 := sizeOf0
 v0 := zeroValue0
 t3 := underlying3
 a3 := isAgg3
 z3 := sizeOf3
 v3 := zeroValue3
 t4 := underlying4
 a4 := isAgg4
 z4 := sizeOf4
 v4 := zeroValue4
 t5 := underlying5
 a5 := isAgg5
 z5 := sizeOf5
 v5 := zeroValue5
 t9 := underlying9
 a9 := isAgg9
 z9 := sizeOf9
 v9 := zeroValue9
 t28 := underlying23
 a28 := isAgg23
 z28 := sizeOf23
 v28 := zeroValue23
 t46 := underlying223
 a46 := isAgg223
 z46 := sizeOf223
 v46 := zeroValue223
 t51 := underlying262
 a51 := isAgg262
 z51 := sizeOf262
 v51 := zeroValue262
 t53 := underlying265
 a53 := isAgg265
 z53 := sizeOf265
 v53 := zeroValue265
 t131 := underlying165
 a131 := isAgg165
 z131 := sizeOf165
 v131 := zeroValue165
 t182 := underlying292
 a182 := isAgg292
 z182 := sizeOf292
 v182 := zeroValue292
 t183 := underlying293
 a183 := isAgg293
 z183 := sizeOf293
 v183 := zeroValue293
 t218 := underlying321
 a218 := isAgg321
 z218 := sizeOf321
 v218 := zeroValue321
 t222 := underlying325
 a222 := isAgg325
 z222 := sizeOf325
 v222 := zeroValue325
 t228 := underlying346
 a228 := isAgg346
 z228 := sizeOf346
 v228 := zeroValue346
 t229 := underlying93
 a229 := isAgg93
 z229 := sizeOf93
 v229 := zeroValue93 }
open Go.Sort Go.RowKit in
theorem Tryz.slices_Sort_int (blk off cap : Nat) (zs : List Int) (w : World) (hH : Holds (Value.int .i64) w blk off zs.toArray) (hblk : blk < w.heap.size) (hsz : zs.length < 4611686018427387904) :
  Calls prog 155 #[.slice (some ⟨blk, off, none⟩) zs.length cap] w fun e w' =>
   e = .returned (.tuple #[]) ∧ ∃ n os, w' = grow (putRow (Value.int .i64) (Sort.ahead w n) blk off (zs.mergeSort fun x y => decide (x ≤ y)).toArray) os := Any.slices_Sort_int Tryz.lays189 blk off cap zs w hH hblk hsz
def Tryz.lays200_ren : Go.Shelf.Ren := ⟨fun | 200 => 193 | 261 => 238 | 311 => 270 | 312 => 271 | n => n, fun | 21 => 21 | 4 => 4 | 51 => 262 | 5 => 5 | 119 => 300 | 0 => 0 | 141 => 302 | 196 => 330 | 193 => 327 | 3 => 3 | 198 => 332 | 49 => 68 | 194 => 328 | 201 => 335 | 226 => 348 | 46 => 223 | 227 => 349 | n => n, fun | 7 => 0 | 8 => 1 | n => n⟩
theorem Tryz.lays200 : Go.Proofs.Lays.n200 prog Tryz.lays200_ren := {
 mixed := by kernel_rfl
 f200 := func193.trans (congrArg some (by kernel_rfl))
 f261 := func238.trans (congrArg some (by kernel_rfl))
 f311 := func270.trans (congrArg some (by kernel_rfl))
 f312 := func271.trans (congrArg some (by kernel_rfl))
 t0 := underlying0
 a0 := isAgg0
 z0 := sizeOf0
 v0 := zeroValue0
 t3 := underlying3
 a3 := isAgg3
 z3 := sizeOf3
 v3 := zeroValue3
 t4 := underlying4
 a4 := isAgg4
 z4 := sizeOf4
 v4 := zeroValue4
 t5 := underlying5
 a5 := isAgg5
 z5 := sizeOf5
 v5 := zeroValue5
 t21 := underlying21
 a21 := isAgg21
 z21 := sizeOf21
 v21 := zeroValue21
 t46 := underlying223
 a46 := isAgg223
 z46 := sizeOf223
 v46 := zeroValue223
 t49 := underlying68
 a49 := isAgg68
 z49 := sizeOf68
 v49 := zeroValue68
 t51 := underlying262
 a51 := isAgg262
 z51 := sizeOf262
 v51 := zeroValue262
 t119 := underlying300
 a119 := isAgg300
 z119 := sizeOf300
 t141 := underlying302
 a141 := isAgg302
 z141 := sizeOf302
 v141 := zeroValue302
 t193 := underlying327
 a193 := isAgg327
 z193 := sizeOf327
 v193 := zeroValue327
 t194 := underlying328
 a194 := isAgg328
 z194 := sizeOf328
 v194 := zeroValue328
 t196 := underlying330
 a196 := isAgg330
 z196 := sizeOf330
 v196 := zeroValue330
 t198 := underlying332
 a198 := isAgg332
 z198 := sizeOf332
 v198 := zeroValue332
 t201 := underlying335
 a201 := isAgg335
 z201 := sizeOf335
 v201 := zeroValue335
 t226 := underlying348
 a226 := isAgg348
 z226 := sizeOf348
 v226 := zeroValue348
 t227 := underlying349
 a227 := isAgg349
 z227 := sizeOf349
 v227 := zeroValue349
 g7 := by kernel_rfl
 g8 := by kernel_rfl }
def Tryz.lays212_ren : Go.Shelf.Ren := ⟨fun | 212 => 153 | 263 => 189 | 264 => 190 | n => n, fun | 46 => 223 | 51 => 262 | 146 => 263 | 53 => 265 | 148 => 266 | n => n, fun | n => n⟩
theorem Tryz.lays212 : Go.Proofs.Lays.n212 prog Tryz.lays212_ren := {
 mixed := by kernel_rfl
 f212 := func153.trans (congrArg some (by kernel_rfl))
 f263 := func189.trans (congrArg some (by kernel_rfl))
 f264 := func190.trans (congrArg some (by kernel_rfl))
 t46 := underlying223
 a46 := isAgg223
 z46 := sizeOf223
 v46 := zeroValue223
 t51 := underlying262
 a51 := isAgg262
 z51 := sizeOf262
 v51 := zeroValue262
 t53 := underlying265
 a53 := isAgg265
 z53 := sizeOf265
 v53 := zeroValue265
 t146 := underlying263
 a146 := isAgg263
 z146 := sizeOf263
 v146 := zeroValue263
 t148 := underlying266
 a148 := isAgg266
 z148 := sizeOf266
 v148 := zeroValue266 }
open Go.RowKit Go.Lib in
theorem Tryz.bits_Mul (x y : Nat) (hx : x < 18446744073709551616) (hy : y < 18446744073709551616) (w : World) :
  Calls prog 153 #[.int .u64 x, .int .u64 y] w fun e w' => e = .returned (.tuple #[.int .u64 ((x * y / 18446744073709551616 : Nat) : Int), .int .u64 ((x * y % 18446744073709551616 : Nat) : Int)]) ∧ w' = w := Any.bits_Mul Tryz.lays212 x y hx hy w
open Go.RowKit Go.Lib in
theorem Tryz.unicode_IsLetter_all (r : Int) (w : World) (hlo : -2147483648 ≤ r) (hhi : r ≤ 2147483647) (htab : Lib.TabIs prog w "unicode.properties" .u8 Lib.propertiesTab) (hV : RVar 1 letterT w) :
  Calls prog 193 #[.int .i32 r] w fun e w' => e = .returned (.bool (isLetterU r)) ∧ Below w.heap.size w w' := Any.unicode_IsLetter_all Tryz.lays200 (by kernel_rfl) r w hlo hhi htab hV
def Tryz.lays112_ren : Go.Shelf.Ren := ⟨fun | 112 => 188 | n => n, fun | 28 => 23 | 3 => 3 | 4 => 4 | 0 => 0 | n => n, fun | n => n⟩
theorem Tryz.lays112 : Go.Proofs.Lays.n112 prog Tryz.lays112_ren := {
 mixed := by kernel_rfl
 f112 := func188.trans (congrArg some (by kernel_rfl))
 t0 := underlying0
 a0 := isAgg0
 z0 := sizeOf0
 v0 := zeroValue0
 t3 := underlying3
 a3 := isAgg3
 z3 := sizeOf3
 v3 := zeroValue3
 t4 := underlying4
 a4 := isAgg4
 z4 := sizeOf4
 v4 := zeroValue4
 t28 := underlying23
 a28 := isAgg23
 z28 := sizeOf23
 v28 := zeroValue23 }
open Go.RowKit Go.Lib Go.Sort in
theorem Tryz.slices_Reverse_int (blk off cap : Nat) (zs : List Int) (w : World) (hH : Holds (Value.int .i64) w blk off zs.toArray) (hsz : zs.length ≤ 9223372036854775807) :
  Calls prog 188 #[.slice (some ⟨blk, off, none⟩) zs.length cap] w fun e w' => e = .returned (.tuple #[]) ∧ ∃ n, w' = putRow (Value.int .i64) (Sort.ahead w n) blk off zs.reverse.toArray := Any.slices_Reverse_int Tryz.lays112 blk off cap zs w hH hsz
open Go.RowKit Go.Lib Go.Sort in
theorem Tryz.slices_Reverse_int_empty (a : Option Addr) (cap : Nat) (w : World) :
  Calls prog 188 #[.slice a 0 cap] w fun e w' => e = .returned (.tuple #[]) ∧ w' = w := Any.slices_Reverse_int_empty Tryz.lays112 a cap w
open Go.RowKit Go.Sort in
theorem Tryz.slices_Sort_int_none (p : Option Addr) (cap : Nat) (w : World) :
  Calls prog 155 #[.slice p 0 cap] w fun e w' => e = .returned (.tuple #[]) ∧ w' = w := Any.slices_Sort_int_none Tryz.lays189 p cap w
end Go.Proofs
namespace Go.Proofs.YtiojekbkamegdaaGreatDoor
open Go.Proofs.Tryz
open Go.Proofs
theorem pl54 : PlacesA prog 54 1 [.int .i64 0, .int .i64 0] := ⟨_, _, _, jy, zeroValue54, j7, rfl⟩
set_option maxRecDepth 20000
variable {E : World}
def inst1 (f : PFunc) (x : PInst) : Bool := decide ((kRow x.op).1 = ⟨#[]⟩) || !decide (x.args.length = (takesL x.op).length) || !x.args.all (hasV f)
def inst2 (f : PFunc) (x : PInst) : Bool := (makesB x.op && !hasV f x.dst) || (!makesB x.op && !decide (x.dst = -1))
def instOK (f : PFunc) (x : PInst) : Bool := !inst1 f x && !inst2 f x && (decide (x.num = 0) || isNum x.op)
def termOK (f : PFunc) (t : PTerm) : Bool := if t.kind = 0 then hasB f t.to0 && decide (t.to1 = 0) && decide (t.var = 0) else if t.kind = 1 then hasV f t.var && hasB f t.to0 && hasB f t.to1 else
 if t.kind = 2 then hasV f t.var && decide (t.to0 = 0 ∧ t.to1 = 0) else false
theorem eq_arr10 (a b c d : Int) (w : World) : (Op.equalIn 10000 54 (.agg [.int .i64 a, .int .i64 b].toArray) (.agg [.int .i64 c, .int .i64 d].toArray)).run prog w = .ok (decide (a = c ∧ b = d)) w := eq_arr a b c d w 9998
theorem inst_spec (f : PFunc) (x : PInst) (hx : okL x.args) : AFun prog E 219 [.agg (encF f), .agg (encInst x)] (.bool (instOK f x)) := by
 have hl := hx.lt
 refine zp func219 Z (by decide) Z<|zSr<|yc (cs := _) Z Z Z<|yc (cs := _) Z Z Z<|zVzAb Z<|z2<|zSr<|zVzFF ji Z Zt Z Z<|zVzLi Y1 Z<|zg (makes_spec _) Z<|z8 (zMu Z)<|z8 (zXi Z Z)<|z8 (zXb Z Z)<|zVzAi Z<|zVzAb Z<|z2<|zc<|zi<|zc<|zr (fun j => false) (by kernel_rfl) Z (zm (.rest _))<|zTk 0 Z (zFF ji Z Zt Z Z)<|zTk 1 Z (zLi Y1 Z)<|zOn 2 Z<|zg (word_spec _) Z<|z2<|zTk 3 Z (yy Z Z)<|zTk 4 Z (zMb Z)<|AAny.case (s := 18) Z (fun c1=>?_) (fun c1=>?_)
 ·refine zTf 5 Z Z Z c1<|zTf 6 Z Z Z c1<|zTf 7 Z Z Z c1<|zTf 8 Z Z Z c1<|zTf 9 Z Z Z c1<|zTf 10 Z Z Z c1<|zTf 11 Z Z Z c1<|zTf 12 Z Z Z c1<|zTk 13 Z (zPt Z c1 Z)<|zTk 14 Z (zMb Z)<|zTf 15 Z Z Z Z<|zTf 16 Z Z Z Z<|zTf 17 Z Z Z Z<|zTf 18 Z Z Z Z<|zTf 19 Z Z Z Z<|zTk 20 Z (zPt Z Z Z)<|zTk 21 Z (zAb Z)<|zDn<|yq Z Z<|zSr<|zVzAb Z<|z2<|zj<|zk (x := .bool _) Z ?_
  exact jb (by simp_all [instOK, inst1, inst2, Int.ofNat_inj] <;> grind)
 ·refine zTt 5 Z Z Z c1 (zFF ji Z jd Z Z)<|zTt 6 Z Z Z c1 (zLf jk Z)<|zTt 7 Z Z Z c1 (Gv.lenM j6 Z)<|zTt 8 Z Z Z c1 (zFF ji Z Zt Z Z)<|zTt 9 Z Z Z c1 (zLi Y1 Z)<|zOn 10 Z<|z7 Z Z c1<|zg (takes_spec _) Z<|z2<|zTt 11 Z Z Z c1 (Gv.lenM underlying286 Z)<|zTt 12 Z Z Z c1 (Gv.neqI Z Z)<|zTk 13 Z (zPf Z c1 Z)<|zTk 14 Z (zMb Z)<|AAny.case (s := 28) Z (fun c2=>?_) (fun c2=>?_)
  ·refine zTf 15 Z Z Z c2<|zTf 16 Z Z Z c2<|zTf 17 Z Z Z c2<|zTf 18 Z Z Z c2<|zTf 19 Z Z Z c2<|zTk 20 Z (zPt Z c2 Z)<|zTk 21 Z (zAb Z)<|zDn<|yq Z Z<|zSr<|zVzAb Z<|z2<|zj<|zk (x := .bool _) Z ?_
   exact jb (by simp_all [instOK, inst1, inst2, Int.ofNat_inj] <;> grind)
  ·refine zTt 15 Z Z Z c2 (yl jq jj Z Z)<|zTt 16 Z Z Z c2 (zFF ji Z jd Z Z)<|zTt 17 Z Z Z c2 (zLf jk Z)<|zOn 18 Z<|z7 Z Z c2<|zg (vars_spec _ _ (by omega)) Z<|z2<|zTt 19 Z Z Z c2 (Gv.not Z)<|zTk 20 Z (zPf Z c2 Z)<|zTk 21 Z (zAb Z)<|zDn<|zu Z (fun c3=>?_) (fun c3=>?_)
   ·refine zSr<|zVzAb Z<|z2<|zj<|zk (x := .bool _) Z ?_
    exact jb (by simp_all [instOK, inst1, inst2, Int.ofNat_inj] <;> grind)
   ·refine zSr<|zVzMb Z<|zVzMb Z<|zq (s := 37) Z (fun c4=>?_) (fun c4=>?_)
    ·refine z7 Z Z c4<|zVGvloadWF jq jj Z Z<|z7 Z Z c4<|zVzFF ji Z j7 Z Z<|z7 Z Z c4<|zVzLi j9 Z<|z7 Z Z c4<|zg (has_spec _ _) Z<|z7 Z Z c4<|zVGvnot Z<|zVzPt Z c4 Z<|zVzMb Z<|zq (s := 44) Z (fun c5=>?_) (fun c5=>?_)
     ·refine z6 Z Z c5<|z6 Z Z c5<|z6 Z Z c5<|zh Z Z<|zh Z Z<|zh Z Z<|z6 Z Z c5<|zVzPt Z c5 Z<|zVzAb Z<|z2<|yq Z Z<|zSr<|zVzAb Z<|z2<|zj<|zk (x := .bool _) Z ?_
      exact jb (by simp_all [instOK, inst1, inst2, Int.ofNat_inj] <;> grind)
     ·refine z7 Z Z c5<|zVzMb Z<|z7 Z Z c5<|zVGvnot Z<|z7 Z Z c5<|zVzMb Z<|zq (s := 47) Z (fun c6=>?_) (fun c6=>?_)
      ·refine z7 Z Z c6<|zVzFF ji Z j7 Z Z<|z7 Z Z c6<|zVzLi j9 Z<|z7 Z Z c6<|zVGvneqI Z Z<|z7 Z Z c5<|zVzPt Z c6 Z<|zVzPf Z c5 Z<|zVzAb Z<|z2<|zu Z (fun c7=>?_) (fun c7=>?_)
       ·refine zSr<|zVzAb Z<|z2<|zj<|zk (x := .bool _) Z ?_
        exact jb (by simp_all [instOK, inst1, inst2, Int.ofNat_inj] <;> grind)
       ·refine zf<|zSr<|zVzFF ji Z Z9 Z Z<|zVzLi Yd Z<|zVGveqlI Z Z<|zVzMb Z<|zq (s := 56) Z (fun c8=>?_) (fun c8=>?_)
        ·refine z6 Z Z c8<|z6 Z Z c8<|z6 Z Z c8<|zVzPt Z c8 Z<|zVzAb Z<|z2<|zj<|zk (x := .bool _) Z ?_
         exact jb (by simp_all [instOK, inst1, inst2, Int.ofNat_inj] <;> grind)
        ·refine z7 Z Z c8<|zVzFF ji Z Zt Z Z<|z7 Z Z c8<|zVzLi Y1 Z<|z7 Z Z c8<|zg (numbered_spec _) Z<|zVzPf Z c8 Z<|zVzAb Z<|z2<|zj<|zk (x := .bool _) Z ?_
         exact jb (by simp_all [instOK, inst1, inst2, Int.ofNat_inj] <;> grind)
      ·refine z6 Z Z c6<|z6 Z Z c6<|z6 Z Z c6<|z7 Z Z c5<|zVzPf Z c6 Z<|zVzPf Z c5 Z<|zVzAb Z<|z2<|yj Z Z<|zf<|zSr<|zVzFF ji Z Z9 Z Z<|zVzLi Yd Z<|zVGveqlI Z Z<|zVzMb Z<|zq (s := 56) Z (fun c9=>?_) (fun c9=>?_)
       ·refine z6 Z Z c9<|z6 Z Z c9<|z6 Z Z c9<|zVzPt Z c9 Z<|zVzAb Z<|z2<|zj<|zk (x := .bool _) Z ?_
        exact jb (by simp_all [instOK, inst1, inst2, Int.ofNat_inj] <;> grind)
       ·refine z7 Z Z c9<|zVzFF ji Z Zt Z Z<|z7 Z Z c9<|zVzLi Y1 Z<|z7 Z Z c9<|zg (numbered_spec _) Z<|zVzPf Z c9 Z<|zVzAb Z<|z2<|zj<|zk (x := .bool _) Z ?_
        exact jb (by simp_all [instOK, inst1, inst2, Int.ofNat_inj] <;> grind)
    ·refine z6 Z Z c4<|z6 Z Z c4<|z6 Z Z c4<|z6 Z Z c4<|z6 Z Z c4<|zVzPf Z c4 Z<|zVzMb Z<|z7 Z Z Z<|zVzMb Z<|z7 Z Z Z<|zVGvnot Z<|z7 Z Z Z<|zVzMb Z<|zq (s := 47) Z (fun c10=>?_) (fun c10=>?_)
     ·refine z7 Z Z c10<|zVzFF ji Z j7 Z Z<|z7 Z Z c10<|zVzLi j9 Z<|z7 Z Z c10<|zVGvneqI Z Z<|z7 Z Z Z<|zVzPt Z c10 Z<|zVzPf Z Z Z<|zVzAb Z<|z2<|zu Z (fun c11=>?_) (fun c11=>?_)
      ·refine zSr<|zVzAb Z<|z2<|zj<|zk (x := .bool _) Z ?_
       exact jb (by simp_all [instOK, inst1, inst2, Int.ofNat_inj] <;> grind)
      ·refine zf<|zSr<|zVzFF ji Z Z9 Z Z<|zVzLi Yd Z<|zVGveqlI Z Z<|zVzMb Z<|zq (s := 56) Z (fun c12=>?_) (fun c12=>?_)
       ·refine z6 Z Z c12<|z6 Z Z c12<|z6 Z Z c12<|zVzPt Z c12 Z<|zVzAb Z<|z2<|zj<|zk (x := .bool _) Z ?_
        exact jb (by simp_all [instOK, inst1, inst2, Int.ofNat_inj] <;> grind)
       ·refine z7 Z Z c12<|zVzFF ji Z Zt Z Z<|z7 Z Z c12<|zVzLi Y1 Z<|z7 Z Z c12<|zg (numbered_spec _) Z<|zVzPf Z c12 Z<|zVzAb Z<|z2<|zj<|zk (x := .bool _) Z ?_
        exact jb (by simp_all [instOK, inst1, inst2, Int.ofNat_inj] <;> grind)
     ·refine z6 Z Z c10<|z6 Z Z c10<|z6 Z Z c10<|z7 Z Z Z<|zVzPf Z c10 Z<|zVzPf Z Z Z<|zVzAb Z<|z2<|yj Z Z<|zf<|zSr<|zVzFF ji Z Z9 Z Z<|zVzLi Yd Z<|zVGveqlI Z Z<|zVzMb Z<|zq (s := 56) Z (fun c13=>?_) (fun c13=>?_)
      ·refine z6 Z Z c13<|z6 Z Z c13<|z6 Z Z c13<|zVzPt Z c13 Z<|zVzAb Z<|z2<|zj<|zk (x := .bool _) Z ?_
       exact jb (by simp_all [instOK, inst1, inst2, Int.ofNat_inj] <;> grind)
      ·refine z7 Z Z c13<|zVzFF ji Z Zt Z Z<|z7 Z Z c13<|zVzLi Y1 Z<|z7 Z Z c13<|zg (numbered_spec _) Z<|zVzPf Z c13 Z<|zVzAb Z<|z2<|zj<|zk (x := .bool _) Z ?_
       exact jb (by simp_all [instOK, inst1, inst2, Int.ofNat_inj] <;> grind)
theorem term_spec (f : PFunc) (t : PTerm) : AFun prog E 220 [.agg (encF f), .agg (encTerm t)] (.bool (termOK f t)) := by
 refine zp func220 Z (by decide) Z<|zSr<|yc (cs := _) Z Z Z<|yc (cs := _) Z Z Z<|zVzAb Z<|z2<|zc<|zSr<|zVzFF jf Z Zu Z Z<|zVzLi Y3 Z<|z2<|zi<|zSr<|zVGveqlI Z Z<|zVzAb Z<|z2<|zu Z (fun c14=>?_) (fun c14=>?_)
 ·refine zSr<|zVGvloadWF jq jj Z Z<|zVzFF jf Z Z6 Z Z<|z8 (yu (j := 0) jy j7 Z Z Z (by decide) Z)<|zVzLi j9 Z<|zg (at_spec _ _) Z<|zVzMb Z<|zq (s := 14) Z (fun c15=>?_) (fun c15=>?_)
  ·refine z7 Z Z c15<|zVzFF jf Z Z6 Z Z<|z7 Z Z c15<|z8 (yu (j := 1) jy j7 Z Z Z (by decide) Z)<|z7 Z Z c15<|zVzLi j9 Z<|z7 Z Z c15<|zVGveqlI Z Z<|zVzPt Z c15 Z<|zVzMb Z<|zq (s := 20) Z (fun c16=>?_) (fun c16=>?_)
   ·refine z7 Z Z c16<|zVzFF jf Z j7 Z Z<|z7 Z Z c16<|zVzLi j9 Z<|z7 Z Z c16<|zVGveqlI Z Z<|zVzPt Z c16 Z<|zVzAb Z<|z2<|zj<|zk (x := .bool _) Z ?_
    exact jb (by simp_all [termOK] <;> grind)
   ·refine z6 Z Z c16<|z6 Z Z c16<|z6 Z Z c16<|zVzPf Z c16 Z<|zVzAb Z<|z2<|zj<|zk (x := .bool _) Z ?_
    exact jb (by simp_all [termOK] <;> grind)
  ·refine z6 Z Z c15<|z6 Z Z c15<|z6 Z Z c15<|z6 Z Z c15<|zVzPf Z c15 Z<|zVzMb Z<|z6 Z Z Z<|z6 Z Z Z<|z6 Z Z Z<|zVzPf Z Z Z<|zVzAb Z<|z2<|zj<|zk (x := .bool _) Z ?_
   exact jb (by simp_all [termOK] <;> grind)
 ·refine zSr<|zVGveqlI Z Z<|zVzAb Z<|z2<|zu Z (fun c17=>?_) (fun c17=>?_)
  ·refine zSr<|zVGvloadWF jq jj Z Z<|zVzFF jf Z j7 Z Z<|zVzLi j9 Z<|zg (has_spec _ _) Z<|zVzMb Z<|zq (s := 31) Z (fun c18=>?_) (fun c18=>?_)
   ·refine z7 Z Z c18<|zVGvloadWF jq jj Z Z<|z7 Z Z c18<|zVzFF jf Z Z6 Z Z<|z7 Z Z c18<|z8 (yu (j := 0) jy j7 Z Z Z (by decide) Z)<|z7 Z Z c18<|zVzLi j9 Z<|z7 Z Z c18<|zg (at_spec _ _) Z<|zVzPt Z c18 Z<|zVzMb Z<|zq (s := 38) Z (fun c19=>?_) (fun c19=>?_)
    ·refine z7 Z Z c19<|zVGvloadWF jq jj Z Z<|z7 Z Z c19<|zVzFF jf Z Z6 Z Z<|z7 Z Z c19<|z8 (yu (j := 1) jy j7 Z Z Z (by decide) Z)<|z7 Z Z c19<|zVzLi j9 Z<|z7 Z Z c19<|zg (at_spec _ _) Z<|zVzPt Z c19 Z<|zVzAb Z<|z2<|zj<|zk (x := .bool _) Z ?_
     exact jb (by simp_all [termOK] <;> grind)
    ·refine z6 Z Z c19<|z6 Z Z c19<|z6 Z Z c19<|z6 Z Z c19<|z6 Z Z c19<|zVzPf Z c19 Z<|zVzAb Z<|z2<|zj<|zk (x := .bool _) Z ?_
     exact jb (by simp_all [termOK] <;> grind)
   ·refine z6 Z Z c18<|z6 Z Z c18<|z6 Z Z c18<|z6 Z Z c18<|z6 Z Z c18<|zVzPf Z c18 Z<|zVzMb Z<|z6 Z Z Z<|z6 Z Z Z<|z6 Z Z Z<|z6 Z Z Z<|z6 Z Z Z<|zVzPf Z Z Z<|zVzAb Z<|z2<|zj<|zk (x := .bool _) Z ?_
    exact jb (by simp_all [termOK] <;> grind)
  ·refine zSr<|zVGveqlI Z Z<|zVzAb Z<|z2<|zu Z (fun c20=>?_) (fun c20=>?_)
   ·refine zSr<|zVGvloadWF jq jj Z Z<|zVzFF jf Z j7 Z Z<|zVzLi j9 Z<|zg (has_spec _ _) Z<|zVzMb Z<|zq (s := 51) Z (fun c21=>?_) (fun c21=>?_)
    ·refine z7 Z Z c21<|zVzFF jf Z Z6 Z Z<|z7 Z Z c21<|zVGvloadWF isAgg54 Z6 Z Z<|z7 Z Z c21<|z8 (Gv.buildA (cps := []) (rs := [.int .i64 0, .int .i64 0]) pl54 Z Z Z)<|z7 Z Z c21<|z8 (Gv.eqlP (xs := [.int _ _, .int _ _]) (ys := [.int _ _, .int _ _]) (by kernel_rfl) Z Z (fun w => eq_arr10 _ _ _ _ w))<|zVzPt Z c21 Z<|zVzAb Z<|z2<|zj<|zk (x := .bool _) Z ?_
     exact jb (by simp_all [termOK] <;> grind)
    ·refine z6 Z Z c21<|z6 Z Z c21<|z6 Z Z c21<|z6 Z Z c21<|zVzPf Z c21 Z<|zVzAb Z<|z2<|zj<|zk (x := .bool _) Z ?_
     exact jb (by simp_all [termOK] <;> grind)
   ·refine zf<|zSr<|zVzAb Z<|z2<|zj<|zk (x := .bool _) Z ?_
    exact jb (by simp_all [termOK] <;> grind)
def encS (s : ByteArray) : List AV := [.str s]
end Go.Proofs.YtiojekbkamegdaaGreatDoor
namespace Go.Proofs.YtiojekbkamegdaaGreatDoor
open Go.Proofs.Tryz
section
variable {E : World} {P : Program} {env : AEnv} {O : OL} {d ty : Nat} {pos : String} {af : Array Edge} {x y : Operand} {t u e : TypeId}
theorem Gv.rem {k : IntKind} {a b : Int} (hx : aev env x = .int k a) (hy : aev env y = .int k b) (hb : b ≠ 0) : Gv P env O (Oper.mk (some d) (.binOp .rem t x y u) ty pos af none) (.int k (a.tmod b)) := Gv.ofEv fun I ρ h => ⟨_, rfl, fun w => by
 rw [run_bin_int (evI h hx) (evI h hy) (by decide) (by decide)]; simp [binOp, Op.intDiv, hb]⟩
theorem Gv.quo {k : IntKind} {a b : Int} (hx : aev env x = .int k a) (hy : aev env y = .int k b) (hb : b ≠ 0) : Gv P env O (Oper.mk (some d) (.binOp .quo t x y u) ty pos af none) (.int k (k.wrap (a.tdiv b))) := Gv.ofEv fun I ρ h => ⟨_, rfl, fun w => by
 rw [run_bin_int (evI h hx) (evI h hy) (by decide) (by decide)]; simp [binOp, Op.intDiv, hb]⟩
theorem Gv.neg {k : IntKind} {a : Int} (hx : aev env x = .int k a) : Gv P env O (Oper.mk (some d) (.unOp .neg t x) ty pos af none) (.int k (k.wrap (0 - a))) := Gv.ofEv fun I ρ h => ⟨_, rfl, fun w => by
 simp [execOp, evI h hx, Op.unary, Op.intArith]⟩
theorem Gv.conv {k k' : IntKind} {a : Int} {ds : TypeDesc} {src dst : TypeId} (hs : P.underlying src = some ds) (hd : P.underlying dst = some (.int k')) (hx : aev env x = .int k a) : Gv P env O (Oper.mk (some d) (.convert src dst x) ty pos af none) (.int k' (k'.wrap a)) := Gv.ofEv fun I ρ h => ⟨_, rfl, fun w => by
 simp only [execOp, evI h hx]
 cases ds <;> simp [convert, run_underlying hs, run_underlying hd, Conv.intToInt]⟩
end
end Go.Proofs.YtiojekbkamegdaaGreatDoor
namespace Go.Proofs.YtiojekbkamegdaaGreatDoor
open Go.Proofs.Tryz
section
variable {E : World} {P : Program} {n : Nat} {l : List Oper} {W : Nat → Bool} {Q : AEnv → OL → Prop} {fuel : Nat} {listed : Array Bool} {env : AEnv} {O Os Om : OL}
theorem AAny.two {i j : Nat} {o o' : Oper} (hi : l[i]? = some o) (hj : l[j]? = some o') (hr : Region.ready .any l.toArray listed = [i, j])
  (h : AOps P E l.toArray (fun env' Om' => AAny P E l W Q fuel (listed.setIfInBounds i true) env' Os Om') [o] env Om)
  (h' : AOps P E l.toArray (fun env' Om' => AAny P E l W Q fuel (listed.setIfInBounds j true) env' Os Om') [o'] env Om) : AAny P E l W Q (fuel + 1) listed env Os Om := fun I F ρ w Ls h1 hLs h2 => by
 have key : ∀ k ok, AOps P E l.toArray (fun env' Om' => AAny P E l W Q fuel (listed.setIfInBounds k true) env' Os Om') [ok] env Om →
   Ops P l.toArray (fun ρ' w' => (stays I.k [] E w' ∧ (dirty W (listed.setIfInBounds k true) ∨ stays I.k Ls E w')) ∧ AnyV P l.toArray (stays I.k [] E) (stays I.k Ls E) W (postK I F E Q) fuel (listed.setIfInBounds k true) ρ' w') [ok] ρ w := fun k ok h =>
  yz (fun ρ' w' ⟨J, env', Om', a, b, c, d⟩ => by
   have hst : stays I.k Ls E w' := by
    obtain ⟨J', L', h3, h4, h5⟩ := c.here
    exact ⟨J', L', a.k.trans h3, h4, h5⟩
   refine ⟨⟨hst.less, .inr hst⟩, AnyV.mono ?_ ?_ (fun _ _ => postK.up a) _ _ _ _ (d J F ρ' w' Ls b (hLs.mono a) c)⟩
   ·rintro w ⟨J', L', h3, h4⟩; exact ⟨J', L', a.k.trans h3, h4⟩
   ·rintro w ⟨J', L', h3, h4⟩; exact ⟨J', L', a.k.trans h3, h4⟩) _ _ _ (h I (Ls ++ F) ρ w h1 h2)
 refine ⟨fun h0 => (by rw [hr] at h0; cases h0), fun k hk o2 ho2 => ?_⟩
 rw [hr] at hk
 simp only [List.mem_cons, List.not_mem_nil, or_false] at hk
 rw [List.getElem?_toArray] at ho2
 rcases hk with rfl | rfl
 ·rw [hi] at ho2; cases ho2; exact key _ _ h
 ·rw [hj] at ho2; cases ho2; exact key _ _ h'
end
end Go.Proofs.YtiojekbkamegdaaGreatDoor
namespace Go.Proofs.YtiojekbkamegdaaGreatDoor
open Go.Proofs.Tryz
section
variable {E : World} {P : Program} {n : Nat} {l : List Oper} {W : Nat → Bool} {Q : AEnv → OL → Prop} {fuel : Nat} {listed : Array Bool} {env : AEnv} {O Os Om : OL}
theorem AAny.three {i j m : Nat} {o o' o'' : Oper} (hi : l[i]? = some o) (hj : l[j]? = some o') (hm : l[m]? = some o'') (hr : Region.ready .any l.toArray listed = [i, j, m])
  (h : AOps P E l.toArray (fun env' Om' => AAny P E l W Q fuel (listed.setIfInBounds i true) env' Os Om') [o] env Om)
  (h' : AOps P E l.toArray (fun env' Om' => AAny P E l W Q fuel (listed.setIfInBounds j true) env' Os Om') [o'] env Om)
  (h'' : AOps P E l.toArray (fun env' Om' => AAny P E l W Q fuel (listed.setIfInBounds m true) env' Os Om') [o''] env Om) : AAny P E l W Q (fuel + 1) listed env Os Om := fun I F ρ w Ls h1 hLs h2 => by
 have key : ∀ k ok, AOps P E l.toArray (fun env' Om' => AAny P E l W Q fuel (listed.setIfInBounds k true) env' Os Om') [ok] env Om →
   Ops P l.toArray (fun ρ' w' => (stays I.k [] E w' ∧ (dirty W (listed.setIfInBounds k true) ∨ stays I.k Ls E w')) ∧ AnyV P l.toArray (stays I.k [] E) (stays I.k Ls E) W (postK I F E Q) fuel (listed.setIfInBounds k true) ρ' w') [ok] ρ w := fun k ok h =>
  yz (fun ρ' w' ⟨J, env', Om', a, b, c, d⟩ => by
   have hst : stays I.k Ls E w' := by
    obtain ⟨J', L', h3, h4, h5⟩ := c.here
    exact ⟨J', L', a.k.trans h3, h4, h5⟩
   refine ⟨⟨hst.less, .inr hst⟩, AnyV.mono ?_ ?_ (fun _ _ => postK.up a) _ _ _ _ (d J F ρ' w' Ls b (hLs.mono a) c)⟩
   ·rintro w ⟨J', L', h3, h4⟩; exact ⟨J', L', a.k.trans h3, h4⟩
   ·rintro w ⟨J', L', h3, h4⟩; exact ⟨J', L', a.k.trans h3, h4⟩) _ _ _ (h I (Ls ++ F) ρ w h1 h2)
 refine ⟨fun h0 => (by rw [hr] at h0; cases h0), fun k hk o2 ho2 => ?_⟩
 rw [hr] at hk
 simp only [List.mem_cons, List.not_mem_nil, or_false] at hk
 rw [List.getElem?_toArray] at ho2
 rcases hk with rfl | rfl | rfl
 ·rw [hi] at ho2; cases ho2; exact key _ _ h
 ·rw [hj] at ho2; cases ho2; exact key _ _ h'
 ·rw [hm] at ho2; cases ho2; exact key _ _ h''
end
theorem ACall.know {E : World} {P : Program} {f : FuncId} {as0 : List AV} {O : OL} {R R' : AV → OL → Prop} (h : ACall P E f as0 O R) (hr : ∀ I F w v x O', R x O' → RepV I x v → SLA I O' F E w → ∃ J y O'', I.le J ∧ RepV J y v ∧ SLA J O'' F E w ∧ R' y O'') : ACall P E f as0 O R' := fun I F w vs h1 h2 =>
 (h I F w vs h1 h2).mono fun v w' ⟨J, x, O', a, b, c, d⟩ => by
  obtain ⟨K, y, O'', e1, e2, e3, e4⟩ := hr J F w' v x O' d b c
  exact ⟨K, y, O'', a.trans e1, e2, e3, e4⟩
theorem Put.has {O O' : OL} {i : Nat} {o o' : AObj} (h : Put O i o o' O') : Has O i o := by
 induction h with
 | head => exact .head
 | tail _ ih => exact ih.tail
set_option linter.defProp false
def yi := @AAny.two
def qg := @AAny.three
def qk := @Gv.conv
end Go.Proofs.YtiojekbkamegdaaGreatDoor
