/- Copies. Of programs that are little. -/
import Derived.Test.YtoicilchhkndmaaGreatDoorJb
import Derived.Shelf.Utf8.RuneCount
import Derived.Shelf.Strconv.Itoa0
import Derived.Shelf.Strconv.Itoa1
import Derived.Shelf.LaysM
import Derived.Shelf.Strconv.Itoa2
import Derived.Shelf.Strconv.Itoa3
import Derived.Shelf.Strconv.Itoa4
import Derived.Shelf.Strings.Search1
import Derived.Shelf.Strings.Search2
import Derived.Shelf.Strings.Search3
import Derived.Shelf.Strings.Cut
import Derived.Shelf.Strings.Count
import Derived.Shelf.Strings.Shaped
import Derived.Shelf.Strings.Split
import Derived.Shelf.Strings.SplitShaped
import Derived.Shelf.Unicode.Props
import Derived.Shelf.Unicode.PropsLaid
import Derived.Shelf.Unicode.Decode
import Derived.Shelf.Strings.RuneCount
import Derived.Shelf.Strings.Explode
import Derived.Shelf.Bits.Mul64
import Derived.Shelf.Unicode.DecodeSlow
import Derived.Shelf.Unicode.DecodeAny
import Derived.Shelf.Unicode.Is16White
import Derived.Shelf.Unicode.IsSpaceAny
import Derived.Shelf.Unicode.Is16WhiteD
import Derived.Shelf.Unicode.Is16Any
import Derived.Shelf.Unicode.Is32Any
import Derived.Shelf.Unicode.ExclAny
import Derived.Shelf.Unicode.PredsAny
import Derived.Shelf.Unicode.PredsPay
import Derived.Shelf.Unicode.ValidAny
import Derived.Test.YtoicilchhkndmaaGreatDoorChecked
import Derived.Lib.ItoaLen
import Derived.Lib.Join
import Derived.Laws.BytesArg
set_option linter.unusedVariables false
set_option linter.unusedSimpArgs false
set_option linter.unusedSectionVars false
namespace Go.Proofs.YtoicilchhkndmaaGreatDoor
open Go.Proofs.Tryz
open Go.Proofs
theorem ps151_1 : PlacesS prog 151 52 1 1 [.int .i64 0] := ⟨_, Z4, sizeOf52, zeroValue52, by decide, by decide, by kernel_rfl⟩
variable {E : World}
set_option maxRecDepth 20000
structure PVar where
 name : ByteArray
 ty : Int
deriving DecidableEq
structure PPhi where
 dst : Int
 args : List Int
 from_ : List Int
deriving DecidableEq
structure PInst where
 op : Int
 dst : Int
 args : List Int
 num : Int
deriving DecidableEq
structure PTerm where
 kind : Int
 var : Int
 to0 : Int
 to1 : Int
deriving DecidableEq
structure PBlock where
 name : ByteArray
 phis : List PPhi
 insts : List PInst
 term : PTerm
deriving DecidableEq
structure PFunc where
 vars : List PVar
 params : List Int
 blocks : List PBlock
deriving DecidableEq
def encI (x : Int) : List AV := [.int .i64 x]
def encVar (v : PVar) : List AV := [.str v.name, .int .i64 v.ty]
def encPhi (p : PPhi) : List AV := [.int .i64 p.dst, .fro 1 (p.args.map encI), .fro 1 (p.from_.map encI)]
def encInst (x : PInst) : List AV := [.int .i64 x.op, .int .i64 x.dst, .fro 1 (x.args.map encI), .int .i64 x.num]
def encTerm (t : PTerm) : List AV := [.int .i64 t.kind, .int .i64 t.var, .int .i64 t.to0, .int .i64 t.to1]
def encBlk (b : PBlock) : List AV := [.str b.name, .fro 3 (b.phis.map encPhi), .fro 4 (b.insts.map encInst), .int .i64 b.term.kind, .int .i64 b.term.var, .int .i64 b.term.to0, .int .i64 b.term.to1]
def encF (f : PFunc) : List AV := [.fro 2 (f.vars.map encVar), .fro 1 (f.params.map encI), .fro 7 (f.blocks.map encBlk)]
theorem takes_spec (op : Int) : AFun prog E 74 [.int .i64 op] (.fro 1 ((takesL op).map encI)) := by
 obtain ⟨hasc, _⟩ := kRow_ascii op
 have hl : (takesL op).length = (kRow op).2.1.size := by unfold takesL; rw [List.length_map]; exact Array.length_toList
 have hlen : (takesL op).length ≤ 3 := by
  rcases kRow_mem op with h | h
  ·unfold takesL; rw [h]; decide
  ·have : ∀ r ∈ kindT, r.2.1.data.toList.length ≤ 3 := by decide
   have := this _ h
   unfold takesL; simpa using this
 refine zn func74 Z (by decide) Z<|zSr<|z7 (zAr Z)<|z6<|zSr<|z7 (zAr Z)<|z6<|adopt_wp (t := 3) (k := 1) (T := 52) Z<|fun i3 => zc<|zSr<|zVzMi Z<|zd (of_spec _) Z<|z7 (Gv.field1 (v := .str _) underlying198 Z Y2 Z Z)<|AOps.rangeT jr Z<|fun i9 => z6<|zi<|yg (γ := Nat × Nat) [9] (fun g => [(3, .own g.2 g.1)]) (fun g => [(i9, .iter (kRow op).2.1 g.1), (g.2, .grow 1 52 (((takesL op).take g.1).map encI).flatten)]) (fun g => g.1 ≤ (takesL op).length) (fun g => (takesL op).length - g.1) (0, i3) zR1 zLe (q5 _) ?_
 rintro ⟨p, i⟩ hp
 try dsimp only at *
 try simp only at hp
 by_cases hlt : p < (takesL op).length
 ·have hb : p < (kRow op).2.1.data.toList.length := by rw [hl] at hlt; exact hlt
  have hg : (kRow op).2.1.data[p]? = some (kRow op).2.1.data.toList[p] := by rw [Array.getElem_toList]; exact Array.getElem?_eq_getElem hb
  refine zSr<|AOps.nextA Z hg (hasc _ (q6 hb)) .head<|z7 (zXb Z Z)<|z6<|zc<|zy Z Z ?_
  have ht : (takesL op).take (p + 1) = (takesL op).take p ++ [typeOf ((kRow op).2.1.data.toList[p]).toNat] := by
   rw [q4 hlt]
   have : (takesL op)[p] = typeOf ((kRow op).2.1.data.toList[p]).toNat := List.getElem_map _
   rw [this]
  refine zj<|zi<|zSr<|z7 (zXi Z Z)<|zVzAi Z<|z6<|zRg<|z7 (zMo Z)<|zVzMi Z<|zd (typed_spec _) Z<|yi (rows := [[_]]) ps151_1 Z Z Z Z Z<|yo (k := 1) Z4 type52 Z Z Z Z Z (fun _ => .t1) (by rw [grow_len (k := 1) (fun _ => rfl), List.length_take, Nat.min_eq_left hp]) (by decide) Z (by show (_ + _) * 8 ≤ _; simp <;> omega) (by simp <;> omega)<|fun i17 => z7 (zAo Z)<|z6 ?_
  exact ⟨(p + 1, i17), zR1, zR1, ⟨_, (.refl _), by rw [← grow_push ht]; rfl⟩, hlt, by simp only; omega⟩
 ·refine zSr<|AOps.nextTover Z .head (by rw [← hl]; exact hlt)<|z7 (zXb Z Z)<|z6<|zc<|zb Z Z ?_
  have hkn : p = (takesL op).length := by omega
  subst hkn
  rw [q7]
  refine yf<|zSr<|z7 (zMo Z)<|z7 (zAo Z)<|z6<|ze ?_
  repeat (first | refine aseqQ_ret ?_ | refine ablockQ_ret ?_)
  refine GStep.fin (GStep.know (t := 2) (rows := (takesL op).map encI) Z .t1 (by first | (intro r hr; obtain ⟨x, _, rfl⟩ := List.mem_map.1 hr; rfl) | simp [encI, encVar, encPhi, encInst, encBlk]) (by decide) (by simp))<|zk (x := .fro _ _) Z ?_
  rfl
theorem makes_spec (op : Int) : AFun prog E 75 [.int .i64 op] (.tup [.int .i64 (makesT op), .bool (makesB op)]) := by
 obtain ⟨_, hasc⟩ := kRow_ascii op
 refine zn func75 Z (by decide) Z<|zSr<|zVzAi Z<|zVzAb Z<|z6<|zc<|zSr<|zVzMi Z<|zd (of_spec _) Z<|z7 (Gv.field1 (v := .str _) underlying198 Z Y2 Z Z)<|AOps.rangeT jr Z<|fun i9 => z6<|zi<|yg (γ := Unit) [9] (fun g => []) (fun g => [(i9, .iter (kRow op).2.2 0)]) (fun g => True) (fun g => 0) () trivial zLe (trivial) ?_
 rintro _ _
 by_cases hlt : ∃ c0 tl, (kRow op).2.2.data.toList = c0 :: tl
 ·obtain ⟨c0, tl, hk⟩ := hlt
  have hg : (kRow op).2.2.data[0]? = some c0 := by rw [← Array.getElem?_toList, hk]; rfl
  refine zSr<|AOps.nextA Z hg (hasc _ (by rw [hk]; exact .head _)) .head<|z7 (zXb Z Z)<|z6<|zc<|zy Z Z<|zj<|zi<|zSr<|z7 (zXi Z Z)<|zVzAi Z<|z6<|zSr<|zVzMi Z<|zd (typed_spec _) Z<|zVzAi Z<|zVzAb Z<|z6<|ze<|yh (x := .int _ _) (y := .bool _) Z Z ?_
  unfold makesT makesB; rw [hk]; rfl
 ·have hk : (kRow op).2.2.data.toList = [] := by
   cases h : (kRow op).2.2.data.toList with
   | nil => rfl
   | cons x l => exact absurd ⟨x, l, h⟩ hlt
  refine zSr<|AOps.nextTover Z .head (by show ¬ 0 < (kRow op).2.2.data.size; rw [← Array.length_toList, hk]; decide)<|z7 (zXb Z Z)<|z6<|zc<|zb Z Z<|yf<|zSr<|zVzAi Z<|zVzAb Z<|z6<|ze<|yh (x := .int _ _) (y := .bool _) Z Z ?_
  unfold makesT makesB; rw [hk]; rfl
def hasV (f : PFunc) (v : Int) : Bool := decide (0 ≤ v) && decide (v < f.vars.length)
def hasB (f : PFunc) (b : Int) : Bool := decide (0 ≤ b) && decide (b < f.blocks.length)
theorem has_spec (f : PFunc) (v : Int) : AFun prog E 102 [.agg (encF f), .int .i64 v] (.bool (hasV f v)) := by
 refine zn func102 Z (by decide) Z<|zSr<|zz (cs := _) Z Z Z<|zVzAb Z<|z6<|zSr<|zVzMi Z<|z7 (Gv.geq Z Z)<|zVzMb Z<|zx (s := 7) Z (fun c1=>?_) (fun c1=>?_)
 ·refine za Z Z c1<|zVzMi Z<|za Z Z c1<|zVzFF jd Z Y5 Z Z<|za Z Z c1<|zVzLf isAgg22 Z<|za Z Z c1<|zVGvlenM jz Z<|za Z Z c1<|zVGvlss Z Z<|zVzPt Z c1 Z<|zVzAb Z<|z6<|ze<|zk (x := .bool _) Z ?_
  simp_all [hasV] <;> omega
 ·refine z8 Z Z c1<|z8 Z Z c1<|z8 Z Z c1<|z8 Z Z c1<|z8 Z Z c1<|zVzPf Z c1 Z<|zVzAb Z<|z6<|ze<|zk (x := .bool _) Z ?_
  simp_all [hasV] <;> omega
theorem at_spec (f : PFunc) (v : Int) : AFun prog E 105 [.agg (encF f), .int .i64 v] (.bool (hasB f v)) := by
 refine zn func105 Z (by decide) Z<|zSr<|zz (cs := _) Z Z Z<|zVzAb Z<|z6<|zSr<|zVzMi Z<|z7 (Gv.geq Z Z)<|zVzMb Z<|zx (s := 7) Z (fun c2=>?_) (fun c2=>?_)
 ·refine za Z Z c2<|zVzMi Z<|za Z Z c2<|zVzFF jd Z Zm Z Z<|za Z Z c2<|zVzLf Y4 Z<|za Z Z c2<|zVGvlenM js Z<|za Z Z c2<|zVGvlss Z Z<|zVzPt Z c2 Z<|zVzAb Z<|z6<|ze<|zk (x := .bool _) Z ?_
  simp_all [hasB] <;> omega
 ·refine z8 Z Z c2<|z8 Z Z c2<|z8 Z Z c2<|z8 Z Z c2<|z8 Z Z c2<|zVzPf Z c2 Z<|zVzAb Z<|z6<|ze<|zk (x := .bool _) Z ?_
  simp_all [hasB] <;> omega
def firstI {α : Type} (p : α → Bool) : List α → Nat → Int
 | [], _ => -1
 | x :: xs, k => if p x then k else firstI p xs (k + 1)
theorem firstI_ge {α : Type} (p : α → Bool) : ∀ (xs : List α) (k : Nat), decide (0 ≤ firstI p xs k) = xs.any p
 | [], k => rfl
 | x :: xs, k => by
  unfold firstI
  rw [List.any_cons]
  split
  ·rename_i h; rw [h]; simp
  ·rename_i h; simp [h, firstI_ge p xs (k + 1)]
theorem firstI_drop {α : Type} (p : α → Bool) : ∀ (xs : List α) (k : Nat), k ≤ xs.length → (xs.take k).all (fun x => !p x) = true → firstI p xs 0 = firstI p (xs.drop k) k
 | _, 0, _, _ => rfl
 | xs, k + 1, h, hall => by
  rw [q4 (by omega), List.all_append] at hall
  simp only [q9, List.all_cons, List.all_nil, Bool.and_true] at hall
  rw [firstI_drop p xs k (by omega) hall.1, List.drop_eq_getElem_cons (by omega)]
  rw [firstI]
  rw [if_neg (by simpa using hall.2)]
theorem indexFuncI_spec {p : Int → Bool} {fn : FuncId} {c : List AV} (xs : List Int) (hl : xs.length ≤ 281474976710656) (hp : ∀ x, AFun prog E fn ([.int .i64 x] ++ c) (.bool (p x))) :
  AFun prog E 109 [.fro 1 (xs.map encI), .fn fn [] c] (.int .i64 (firstI p xs 0)) := by
 refine zn func109 Z (by decide) Z<|zSr<|zVzAi Z<|z6<|zc<|zSr<|zVzMf Z<|zVGvlenM ja Z<|zVzMi Z<|z6<|zi<|yg (γ := Nat) [0, 1, 7] (fun k => [(8, .int .i64 k)]) (fun k => []) (fun k => k ≤ xs.length ∧ (xs.take k).all (fun x => !p x)) (fun k => xs.length - k) 0 zR1 zLe (⟨q5 _, Z⟩) ?_
 rintro k ⟨hk, hall⟩
 refine zSr<|zVGvlss Z Z<|z6<|zc<|y9 Z (fun ck=>?_) (fun ck=>?_)
 ·have hk2 : k < xs.length := by omega
  refine zj<|zc<|zi<|zSr<|zVzMi Z<|zVzAi Z<|z6<|zSr<|z7 (yy (v := .fn _ _ _) Z)<|zVzMf Z<|zVzMi Z<|z7 (Gv.idxM ja j6 Z Z Z (q3 (by omega)))<|zVzLi je Z<|AOps.callVP Z (hp _) Z<|z6<|yb Z (fun cp=>?_) (fun cp=>?_)
  ·refine zSr<|zVzMi Z<|zVzAi Z<|z6<|ze<|zk (x := .int _ _) Z ?_
   rw [firstI_drop p xs k hk hall, List.drop_eq_getElem_cons hk2, firstI, if_pos cp]
  ·refine zj<|zRg<|zVzAd Z Z<|zVzMi Z<|z6 ?_
   exact ⟨k + 1, zR3, zR1, zLe, ⟨hk2, by rw [q4 hk2, List.all_append, hall]; simp [cp]⟩, by omega⟩
 ·have hkn : k = xs.length := by omega
  refine yf<|zSr<|zVzAi Z<|z6<|ze<|zk (x := .int _ _) Z ?_
  rw [firstI_drop p xs k hk hall, hkn, List.drop_length, firstI]
theorem containsFuncI_spec {p : Int → Bool} {fn : FuncId} {c : List AV} (xs : List Int) (hl : xs.length ≤ 281474976710656) (hp : ∀ x, AFun prog E fn ([.int .i64 x] ++ c) (.bool (p x))) :
  AFun prog E 70 [.fro 1 (xs.map encI), .fn fn [] c] (.bool (xs.any p)) := by
 refine zn func70 Z (by decide) Z<|zSr<|zVzAb Z<|z6<|zSr<|zVzMf Z<|z7 (yy (v := .fn _ _ _) Z)<|zd (indexFuncI_spec xs hl hp) Z<|z7 (Gv.geq Z Z)<|zVzAb Z<|z6<|ze<|zk (x := .bool _) Z ?_
 rw [firstI_ge]
theorem vars1_spec (f : PFunc) (v : Int) : AFun prog E 134 ([.int .i64 v] ++ [.pf (encF f)]) (.bool (!hasV f v)) := by
 refine zn func134 Z (by decide) Z<|zSr<|zVzAb Z<|z6<|zSr<|zVGvloadWF jp jf Z Z<|zVzMi Z<|zd (has_spec _ _) Z<|zVGvnot Z<|zVzAb Z<|z6<|ze<|zk (x := .bool _) Z ?_
 rfl
theorem vars_spec (f : PFunc) (l : List Int) (hl : l.length ≤ 281474976710656) : AFun prog E 103 [.agg (encF f), .fro 1 (l.map encI)] (.bool (l.all (hasV f))) := by
 refine zn func103 Z (by decide) Z<|zSr<|zz (cs := _) Z Z Z<|zVzAb Z<|z6<|zSr<|zVzMf Z<|z7 (Gv.func Z Z)<|zd (containsFuncI_spec l hl (vars1_spec f)) Z<|zVGvnot Z<|zVzAb Z<|z6<|ze<|zk (x := .bool _) Z ?_
 rw [List.any_eq_not_all_not]; simp
end Go.Proofs.YtoicilchhkndmaaGreatDoor
namespace Go.Proofs.YtoicilchhkndmaaGreatDoor
open Go.Proofs.Tryz
open Go.Proofs
variable {E : World}
set_option maxRecDepth 20000
def okL {α : Type} (l : List α) : Prop := l.length ≤ 140737488355328
def okPhi (p : PPhi) : Prop := okL p.args ∧ okL p.from_
def okBlk (b : PBlock) : Prop := okL b.phis ∧ okL b.insts ∧ (∀ p ∈ b.phis, okPhi p) ∧ (∀ x ∈ b.insts, okL x.args)
def okFunc (f : PFunc) : Prop := okL f.vars ∧ okL f.params ∧ okL f.blocks ∧ ∀ b ∈ f.blocks, okBlk b
theorem okL.lt {α : Type} {l : List α} (h : okL l) : l.length ≤ 140737488355328 := h
theorem jb {x y : Bool} (h : x = y) : AV.bool x = AV.bool y := congrArg AV.bool h
theorem eq_arr (a b c d : Int) (w : World) (m : Nat) : (Op.equalIn (m + 2) 58 (.agg [.int .i64 a, .int .i64 b].toArray) (.agg [.int .i64 c, .int .i64 d].toArray)).run prog w = .ok (decide (a = c ∧ b = d)) w := by
 rw [Op.equalIn]
 simp only [Sem.run_bind, run_underlying Z6, Result.andThen_ok]
 simp only [Std.Legacy.Range.forIn_eq_forIn_range', Std.Legacy.Range.size, Nat.sub_zero, Nat.add_sub_cancel, Nat.div_one, List.range'_succ, List.range'_zero, List.forIn_cons, List.forIn_nil]
 simp [part, je, j6, run_equalIn_int, Z7]
 by_cases h1 : a = c <;> by_cases h2 : b = d <;> simp [h1, h2]
end Go.Proofs.YtoicilchhkndmaaGreatDoor
namespace Go.Proofs
open Go.Shelf
def Tryz.laysM246_ren : Go.Shelf.Ren := ⟨fun | 246 => 32 | 283 => 58 | 284 => 59 | 285 => 60 | 286 => 61 | 129 => 95 | 317 => 94 | 318 => 96 | 319 => 97 | 320 => 98 | 337 => 132 | 338 => 133 | n => n, fun | 2 => 2 | 3 => 3 | 9 => 9 | 4 => 4 | 171 => 137 | 0 => 0 | 53 => 138 | 37 => 141 | 5 => 5 | 173 => 142 | 212 => 185 | 51 => 186 | 20 => 20 | 213 => 187 | 46 => 188 | 232 => 233 | 233 => 234 | n => n, fun | 17 => 0 | 18 => 3 | 19 => 4 | n => n⟩
def Tryz.laysM173_ren : Go.Shelf.Ren := ⟨fun | 173 => 18 | 246 => 32 | 283 => 58 | 284 => 59 | 285 => 60 | 286 => 61 | 129 => 95 | 317 => 94 | 318 => 96 | 319 => 97 | 320 => 98 | 337 => 132 | 338 => 133 | n => n, fun | 2 => 2 | 3 => 3 | 9 => 9 | 4 => 4 | 171 => 137 | 0 => 0 | 53 => 138 | 37 => 141 | 5 => 5 | 173 => 142 | 212 => 185 | 51 => 186 | 20 => 20 | 213 => 187 | 46 => 188 | 232 => 233 | 233 => 234 | n => n, fun | 17 => 0 | 18 => 3 | 19 => 4 | n => n⟩
theorem Tryz.laysM173 : Go.Proofs.LaysM.n173 prog Tryz.laysM173_ren := {
 mixed := by kernel_rfl
 f129 := func95.trans (congrArg some (by kernel_rfl))
 f173 := func18.trans (congrArg some (by kernel_rfl))
 f246 := func32.trans (congrArg some (by kernel_rfl))
 f283 := func58.trans (congrArg some (by kernel_rfl))
 f284 := func59.trans (congrArg some (by kernel_rfl))
 f285 := func60.trans (congrArg some (by kernel_rfl))
 f286 := func61.trans (congrArg some (by kernel_rfl))
 f317 := func94.trans (congrArg some (by kernel_rfl))
 f318 := func96.trans (congrArg some (by kernel_rfl))
 f319 := func97.trans (congrArg some (by kernel_rfl))
 f320 := func98.trans (congrArg some (by kernel_rfl))
 f337 := func132.trans (congrArg some (by kernel_rfl))
 f338 := func133.trans (congrArg some (by kernel_rfl))
 t0 := underlying0
 a0 := isAgg0
 z0 := sizeOf0
 v0 := zeroValue0
 t2 := underlying2
 a2 := isAgg2
 z2 := sizeOf2
 v2 := zeroValue2
 t3 := underlying3
 a3 := isAgg3
 z3 := sizeOf3
 v3 := zeroValue3
 t4 := underlying4
 a4 := isAgg4
 z4 := sizeOf4
 v4 := zeroValue4
 t5 := underlying5
 a5 := isAgg5
 z5 := sizeOf5
 v5 := zeroValue5
 t9 := underlying9
 a9 := isAgg9
 z9 := sizeOf9
 v9 := zeroValue9
 t20 := underlying20
 a20 := isAgg20
 z20 := sizeOf20
 v20 := zeroValue20
 t37 := underlying141
 a37 := isAgg141
 z37 := sizeOf141
 v37 := zeroValue141
 t46 := underlying188
 a46 := isAgg188
 z46 := sizeOf188
 v46 := zeroValue188
 t51 := underlying186
 a51 := isAgg186
 z51 := sizeOf186
 v51 := zeroValue186
 t53 := underlying138
 a53 := isAgg138
 z53 := sizeOf138
 v53 := zeroValue138
 t171 := underlying137
 a171 := isAgg137
 z171 := sizeOf137
 v171 := zeroValue137
 t173 := underlying142
 a173 := isAgg142
 z173 := sizeOf142
 v173 := zeroValue142
 t212 := underlying185
 a212 := isAgg185
 z212 := sizeOf185
 v212 := zeroValue185
 t213 := underlying187
 a213 := isAgg187
 z213 := sizeOf187
 t232 := underlying233
 a232 := isAgg233
 z232 := sizeOf233
 v232 := zeroValue233
 t233 := underlying234
 a233 := isAgg234
 z233 := sizeOf234
 v233 := zeroValue234
 g17 := by kernel_rfl
 g18 := by kernel_rfl
 g19 := by kernel_rfl
 i0 := by kernel_rfl
 i2 := by kernel_rfl
 i3 := by kernel_rfl
 i4 := by kernel_rfl
 i5 := by kernel_rfl
 i9 := by kernel_rfl
 i20 := by kernel_rfl
 i37 := by kernel_rfl
 i46 := by kernel_rfl
 i51 := by kernel_rfl
 i53 := by kernel_rfl
 i171 := by kernel_rfl
 i173 := by kernel_rfl
 i212 := by kernel_rfl
 i232 := by kernel_rfl
 i233 := by kernel_rfl
 m17 := by kernel_rfl
 m18 := by kernel_rfl
 m19 := by kernel_rfl }
open Go.RowKit Go.Sort Go.Lib in
theorem Tryz.strconv_FormatInt_10 (n : Int) (h0 : -9223372036854775808 ≤ n) (h1 : n ≤ 9223372036854775807) (w : World) (htab : Lib.TabIs prog w "internal/strconv.uint64pow10" .u64 Lib.pow10Tab) :
  Calls prog 18 #[.int .i64 n, .int .i64 10] w fun e w' => e = .returned (.string ⟨(Lib.itoa n).toArray⟩) ∧ ∃ k os, w' = grow (w.drewN k) os := Any.strconv_FormatInt_10 Tryz.laysM173 n h0 h1 w htab
def Tryz.lays219_ren : Go.Shelf.Ren := ⟨fun | 219 => 146 | 217 => 155 | 225 => 156 | 224 => 157 | 267 => 158 | 266 => 164 | 314 => 165 | n => n, fun | 9 => 9 | 3 => 3 | 4 => 4 | 5 => 5 | 46 => 188 | 146 => 244 | 51 => 186 | n => n, fun | 1 => 5 | n => n⟩
def Tryz.lays145_ren : Go.Shelf.Ren := ⟨fun | 145 => 85 | 220 => 125 | 219 => 146 | 217 => 155 | 225 => 156 | 224 => 157 | 267 => 158 | 266 => 164 | 314 => 165 | n => n, fun | 9 => 9 | 4 => 4 | 59 => 163 | 3 => 3 | 5 => 5 | 46 => 188 | 146 => 244 | 51 => 186 | n => n, fun | 1 => 5 | n => n⟩
theorem Tryz.lays145 : Go.Proofs.Lays.n145 prog Tryz.lays145_ren := {
 mixed := by kernel_rfl
 f145 := func85.trans (congrArg some (by kernel_rfl))
 f217 := func155.trans (congrArg some (by kernel_rfl))
 f219 := func146.trans (congrArg some (by kernel_rfl))
 f220 := func125.trans (congrArg some (by kernel_rfl))
 f224 := func157.trans (congrArg some (by kernel_rfl))
 f225 := func156.trans (congrArg some (by kernel_rfl))
 f266 := func164.trans (congrArg some (by kernel_rfl))
 f267 := func158.trans (congrArg some (by kernel_rfl))
 f314 := func165.trans (congrArg some (by kernel_rfl))
 t3 := underlying3
 a3 := isAgg3
 z3 := sizeOf3
 v3 := zeroValue3
 t4 := underlying4
 a4 := isAgg4
 z4 := sizeOf4
 v4 := zeroValue4
 t5 := underlying5
 a5 := isAgg5
 z5 := sizeOf5
 v5 := zeroValue5
 t9 := underlying9
 a9 := isAgg9
 z9 := sizeOf9
 v9 := zeroValue9
 t46 := underlying188
 a46 := isAgg188
 z46 := sizeOf188
 v46 := zeroValue188
 t51 := underlying186
 a51 := isAgg186
 z51 := sizeOf186
 v51 := zeroValue186
 t59 := underlying163
 a59 := isAgg163
 z59 := sizeOf163
 v59 := zeroValue163
 t146 := underlying244
 a146 := isAgg244
 z146 := sizeOf244
 v146 := zeroValue244
 g1 := by kernel_rfl }
open Go.RowKit Go.Lib in
theorem Tryz.strings_Cut (s sep : ByteArray) (m : Int) (w : World) (hs : s.size < 4294967281) (hm : w.cell? ⟨5, 0, none⟩ = some (.int .i64 m)) :
  Calls prog 85 #[.string s, .string sep] w fun e w' => e = .returned (.tuple #[.string ⟨(Lib.cut s.data.toList sep.data.toList).1.toArray⟩, .string ⟨(Lib.cut s.data.toList sep.data.toList).2.1.toArray⟩, .bool (Lib.cut s.data.toList sep.data.toList).2.2]) ∧ ∃ n, w' = w.drewN n := Any.strings_Cut Tryz.lays145 s sep m w hs hm
def Tryz.lays221_ren : Go.Shelf.Ren := ⟨fun | 221 => 84 | 268 => 122 | 138 => 123 | 143 => 124 | 195 => 143 | 197 => 144 | 218 => 145 | 219 => 146 | 260 => 154 | 217 => 155 | 225 => 156 | 224 => 157 | 267 => 158 | 266 => 164 | 314 => 165 | n => n, fun | 9 => 9 | 3 => 3 | 31 => 119 | 4 => 4 | 0 => 0 | 105 => 229 | 21 => 21 | 5 => 5 | 46 => 188 | 119 => 214 | 139 => 217 | 138 => 216 | 146 => 244 | 51 => 186 | n => n, fun | 1 => 5 | 3 => 1 | 4 => 2 | n => n⟩
def Tryz.lays146_ren : Go.Shelf.Ren := ⟨fun | 146 => 51 | 221 => 84 | 268 => 122 | 138 => 123 | 143 => 124 | 195 => 143 | 197 => 144 | 218 => 145 | 219 => 146 | 260 => 154 | 217 => 155 | 225 => 156 | 224 => 157 | 267 => 158 | 266 => 164 | 314 => 165 | n => n, fun | 9 => 9 | 31 => 119 | 3 => 3 | 4 => 4 | 0 => 0 | 105 => 229 | 21 => 21 | 5 => 5 | 46 => 188 | 119 => 214 | 139 => 217 | 138 => 216 | 146 => 244 | 51 => 186 | n => n, fun | 1 => 5 | 3 => 1 | 4 => 2 | n => n⟩
theorem Tryz.lays146 : Go.Proofs.Lays.n146 prog Tryz.lays146_ren := {
 mixed := by kernel_rfl
 f138 := func123.trans (congrArg some (by kernel_rfl))
 f143 := func124.trans (congrArg some (by kernel_rfl))
 f146 := func51.trans (congrArg some (by kernel_rfl))
 f195 := func143.trans (congrArg some (by kernel_rfl))
 f197 := func144.trans (congrArg some (by kernel_rfl))
 f217 := func155.trans (congrArg some (by kernel_rfl))
 f218 := func145.trans (congrArg some (by kernel_rfl))
 f219 := func146.trans (congrArg some (by kernel_rfl))
 f221 := func84.trans (congrArg some (by kernel_rfl))
 f224 := func157.trans (congrArg some (by kernel_rfl))
 f225 := func156.trans (congrArg some (by kernel_rfl))
 f260 := func154.trans (congrArg some (by kernel_rfl))
 f266 := func164.trans (congrArg some (by kernel_rfl))
 f267 := func158.trans (congrArg some (by kernel_rfl))
 f268 := func122.trans (congrArg some (by kernel_rfl))
 f314 := func165.trans (congrArg some (by kernel_rfl))
 t0 := underlying0
 a0 := isAgg0
 z0 := sizeOf0
 v0 := zeroValue0
 t3 := underlying3
 a3 := isAgg3
 z3 := sizeOf3
 v3 := zeroValue3
 t4 := underlying4
 a4 := isAgg4
 z4 := sizeOf4
 v4 := zeroValue4
 t5 := underlying5
 a5 := isAgg5
 z5 := sizeOf5
 v5 := zeroValue5
 t9 := underlying9
 a9 := isAgg9
 z9 := sizeOf9
 v9 := zeroValue9
 t21 := underlying21
 a21 := isAgg21
 z21 := sizeOf21
 v21 := zeroValue21
 t31 := underlying119
 a31 := isAgg119
 z31 := sizeOf119
 v31 := zeroValue119
 t46 := underlying188
 a46 := isAgg188
 z46 := sizeOf188
 v46 := zeroValue188
 t51 := underlying186
 a51 := isAgg186
 z51 := sizeOf186
 v51 := zeroValue186
 t105 := underlying229
 a105 := isAgg229
 z105 := sizeOf229
 v105 := zeroValue229
 t119 := underlying214
 a119 := isAgg214
 z119 := sizeOf214
 t138 := underlying216
 a138 := isAgg216
 z138 := sizeOf216
 v138 := zeroValue216
 t139 := underlying217
 a139 := isAgg217
 z139 := sizeOf217
 v139 := zeroValue217
 t146 := underlying244
 a146 := isAgg244
 z146 := sizeOf244
 v146 := zeroValue244
 g1 := by kernel_rfl
 g3 := by kernel_rfl
 g4 := by kernel_rfl }
open Go.RowKit Go.Lib in
theorem Tryz.strings_Split (s sep : ByteArray) (m : Int) (w : World) (hs : s.size < 4294967281) (hm : w.cell? ⟨5, 0, none⟩ = some (.int .i64 m)) (h1 : 1 ≤ sep.size) :
  Calls prog 51 #[.string s, .string sep] w fun e w' =>
   e = .returned (.slice (some ⟨w.heap.size, 0, none⟩) (Lib.countB s sep + 1) (Lib.countB s sep + 1)) ∧ w' = w.alloc (.cells ((Lib.splitB sep 0 (Lib.countB s sep) s).map Value.string).toArray 9) := Any.strings_Split Tryz.lays146 (by kernel_rfl) s sep m w hs hm h1
def Tryz.lays200_ren : Go.Shelf.Ren := ⟨fun | 200 => 147 | 261 => 159 | 311 => 166 | 312 => 167 | n => n, fun | 21 => 21 | 4 => 4 | 51 => 186 | 5 => 5 | 119 => 214 | 0 => 0 | 141 => 239 | 196 => 249 | 193 => 246 | 3 => 3 | 198 => 251 | 49 => 31 | 194 => 247 | 201 => 254 | 226 => 264 | 46 => 188 | 227 => 265 | n => n, fun | 7 => 6 | 8 => 7 | n => n⟩
theorem Tryz.lays200 : Go.Proofs.Lays.n200 prog Tryz.lays200_ren := {
 mixed := by kernel_rfl
 f200 := func147.trans (congrArg some (by kernel_rfl))
 f261 := func159.trans (congrArg some (by kernel_rfl))
 f311 := func166.trans (congrArg some (by kernel_rfl))
 f312 := func167.trans (congrArg some (by kernel_rfl))
 t0 := underlying0
 a0 := isAgg0
 z0 := sizeOf0
 v0 := zeroValue0
 t3 := underlying3
 a3 := isAgg3
 z3 := sizeOf3
 v3 := zeroValue3
 t4 := underlying4
 a4 := isAgg4
 z4 := sizeOf4
 v4 := zeroValue4
 t5 := underlying5
 a5 := isAgg5
 z5 := sizeOf5
 v5 := zeroValue5
 t21 := underlying21
 a21 := isAgg21
 z21 := sizeOf21
 v21 := zeroValue21
 t46 := underlying188
 a46 := isAgg188
 z46 := sizeOf188
 v46 := zeroValue188
 t49 := underlying31
 a49 := isAgg31
 z49 := sizeOf31
 v49 := zeroValue31
 t51 := underlying186
 a51 := isAgg186
 z51 := sizeOf186
 v51 := zeroValue186
 t119 := underlying214
 a119 := isAgg214
 z119 := sizeOf214
 t141 := underlying239
 a141 := isAgg239
 z141 := sizeOf239
 v141 := zeroValue239
 t193 := underlying246
 a193 := isAgg246
 z193 := sizeOf246
 v193 := zeroValue246
 t194 := underlying247
 a194 := isAgg247
 z194 := sizeOf247
 v194 := zeroValue247
 t196 := underlying249
 a196 := isAgg249
 z196 := sizeOf249
 v196 := zeroValue249
 t198 := underlying251
 a198 := isAgg251
 z198 := sizeOf251
 v198 := zeroValue251
 t201 := underlying254
 a201 := isAgg254
 z201 := sizeOf254
 v201 := zeroValue254
 t226 := underlying264
 a226 := isAgg264
 z226 := sizeOf264
 v226 := zeroValue264
 t227 := underlying265
 a227 := isAgg265
 z227 := sizeOf265
 v227 := zeroValue265
 g7 := by kernel_rfl
 g8 := by kernel_rfl }
def Tryz.lays197_ren : Go.Shelf.Ren := ⟨fun | 197 => 144 | 260 => 154 | n => n, fun | 9 => 9 | 21 => 21 | 3 => 3 | 4 => 4 | 5 => 5 | 105 => 229 | 119 => 214 | 0 => 0 | 46 => 188 | 139 => 217 | 138 => 216 | n => n, fun | 3 => 1 | 4 => 2 | n => n⟩
def Tryz.lays264_ren : Go.Shelf.Ren := ⟨fun | 264 => 152 | n => n, fun | 53 => 138 | 46 => 188 | n => n, fun | n => n⟩
theorem Tryz.lays264 : Go.Proofs.Lays.n264 prog Tryz.lays264_ren := {
 mixed := by kernel_rfl
 f264 := func152.trans (congrArg some (by kernel_rfl))
 t46 := underlying188
 a46 := isAgg188
 z46 := sizeOf188
 v46 := zeroValue188
 t53 := underlying138
 a53 := isAgg138
 z53 := sizeOf138
 v53 := zeroValue138 }
open Go.RowKit Go.Lib in
theorem Tryz.bits_Mul64 (x y : Nat) (hx : x < 18446744073709551616) (hy : y < 18446744073709551616) (w : World) :
  Calls prog 152 #[.int .u64 x, .int .u64 y] w fun e w' => e = .returned (.tuple #[.int .u64 ((x * y / 18446744073709551616 : Nat) : Int), .int .u64 ((x * y % 18446744073709551616 : Nat) : Int)]) ∧ w' = w := Any.bits_Mul64 Tryz.lays264 x y hx hy w
def Tryz.lays260_ren : Go.Shelf.Ren := ⟨fun | 260 => 154 | n => n, fun | 9 => 9 | 21 => 21 | 3 => 3 | 4 => 4 | 5 => 5 | 119 => 214 | 0 => 0 | 46 => 188 | 139 => 217 | 138 => 216 | n => n, fun | 3 => 1 | 4 => 2 | n => n⟩
theorem Tryz.lays260 : Go.Proofs.Lays.n260 prog Tryz.lays260_ren := {
 mixed := by kernel_rfl
 f260 := func154.trans (congrArg some (by kernel_rfl))
 t0 := underlying0
 a0 := isAgg0
 z0 := sizeOf0
 v0 := zeroValue0
 t3 := underlying3
 a3 := isAgg3
 z3 := sizeOf3
 v3 := zeroValue3
 t4 := underlying4
 a4 := isAgg4
 z4 := sizeOf4
 v4 := zeroValue4
 t5 := underlying5
 a5 := isAgg5
 z5 := sizeOf5
 v5 := zeroValue5
 t9 := underlying9
 a9 := isAgg9
 z9 := sizeOf9
 v9 := zeroValue9
 t21 := underlying21
 a21 := isAgg21
 z21 := sizeOf21
 v21 := zeroValue21
 t46 := underlying188
 a46 := isAgg188
 z46 := sizeOf188
 v46 := zeroValue188
 t119 := underlying214
 a119 := isAgg214
 z119 := sizeOf214
 t138 := underlying216
 a138 := isAgg216
 z138 := sizeOf216
 v138 := zeroValue216
 t139 := underlying217
 a139 := isAgg217
 z139 := sizeOf217
 v139 := zeroValue217
 g3 := by kernel_rfl
 g4 := by kernel_rfl }
open Go.RowKit Go.Lib in
theorem Tryz.unicode_IsLetter_all (r : Int) (w : World) (hlo : -2147483648 ≤ r) (hhi : r ≤ 2147483647) (htab : Lib.TabIs prog w "unicode.properties" .u8 Lib.propertiesTab) (hV : RVar 7 letterT w) :
  Calls prog 147 #[.int .i32 r] w fun e w' => e = .returned (.bool (isLetterU r)) ∧ Below w.heap.size w w' := Any.unicode_IsLetter_all Tryz.lays200 (by kernel_rfl) r w hlo hhi htab hV
def Tryz.lays196_ren : Go.Shelf.Ren := ⟨fun | 196 => 83 | 259 => 121 | n => n, fun | 9 => 9 | 4 => 4 | 3 => 3 | 5 => 5 | 12 => 12 | 119 => 214 | 0 => 0 | 46 => 188 | 139 => 217 | 138 => 216 | 53 => 138 | n => n, fun | 3 => 1 | 4 => 2 | n => n⟩
theorem Tryz.lays196 : Go.Proofs.Lays.n196 prog Tryz.lays196_ren := {
 mixed := by kernel_rfl
 f196 := func83.trans (congrArg some (by kernel_rfl))
 f259 := func121.trans (congrArg some (by kernel_rfl))
 t0 := underlying0
 a0 := isAgg0
 z0 := sizeOf0
 v0 := zeroValue0
 t3 := underlying3
 a3 := isAgg3
 z3 := sizeOf3
 v3 := zeroValue3
 t4 := underlying4
 a4 := isAgg4
 z4 := sizeOf4
 v4 := zeroValue4
 t5 := underlying5
 a5 := isAgg5
 z5 := sizeOf5
 v5 := zeroValue5
 t9 := underlying9
 a9 := isAgg9
 z9 := sizeOf9
 v9 := zeroValue9
 t12 := underlying12
 a12 := isAgg12
 z12 := sizeOf12
 v12 := zeroValue12
 t46 := underlying188
 a46 := isAgg188
 z46 := sizeOf188
 v46 := zeroValue188
 t53 := underlying138
 a53 := isAgg138
 z53 := sizeOf138
 v53 := zeroValue138
 t119 := underlying214
 a119 := isAgg214
 z119 := sizeOf214
 t138 := underlying216
 a138 := isAgg216
 z138 := sizeOf216
 v138 := zeroValue216
 t139 := underlying217
 a139 := isAgg217
 z139 := sizeOf217
 v139 := zeroValue217
 g3 := by kernel_rfl
 g4 := by kernel_rfl }
open Go.RowKit Go.Lib in
theorem Tryz.utf8_ValidString (s : ByteArray) (w : World) (hs : s.size ≤ 9223372036854775807) (hT : Lib.Utf8Tabs 1 2 w) :
  Calls prog 83 #[.string s] w fun e w' => e = .returned (.bool (Lib.validD s.data.toList)) ∧ Below w.heap.size w w' := Any.utf8_ValidString Tryz.lays196 s w hs hT
end Go.Proofs
namespace Go.Proofs.YtoicilchhkndmaaGreatDoor
open Go.Proofs.Tryz
open Go.Proofs
theorem pl58 : PlacesA prog 58 1 [.int .i64 0, .int .i64 0] := ⟨_, _, _, Z6, zeroValue58, j6, rfl⟩
set_option maxRecDepth 20000
variable {E : World}
def inst1 (f : PFunc) (x : PInst) : Bool := decide ((kRow x.op).1 = ⟨#[]⟩) || !decide (x.args.length = (takesL x.op).length) || !x.args.all (hasV f)
def inst2 (f : PFunc) (x : PInst) : Bool := (makesB x.op && !hasV f x.dst) || (!makesB x.op && !decide (x.dst = -1))
def instOK (f : PFunc) (x : PInst) : Bool := !inst1 f x && !inst2 f x && (decide (x.num = 0) || isNum x.op)
def termOK (f : PFunc) (t : PTerm) : Bool := if t.kind = 0 then hasB f t.to0 && decide (t.to1 = 0) && decide (t.var = 0) else if t.kind = 1 then hasV f t.var && hasB f t.to0 && hasB f t.to1 else
 if t.kind = 2 then hasV f t.var && decide (t.to0 = 0 ∧ t.to1 = 0) else false
theorem eq_arr10 (a b c d : Int) (w : World) : (Op.equalIn 10000 58 (.agg [.int .i64 a, .int .i64 b].toArray) (.agg [.int .i64 c, .int .i64 d].toArray)).run prog w = .ok (decide (a = c ∧ b = d)) w := eq_arr a b c d w 9998
theorem inst_spec (f : PFunc) (x : PInst) (hx : okL x.args) : AFun prog E 68 [.agg (encF f), .agg (encInst x)] (.bool (instOK f x)) := by
 have hl := hx.lt
 refine zn func68 Z (by decide) Z<|zSr<|zz (cs := _) Z Z Z<|zz (cs := _) Z Z Z<|zVzAb Z<|z6<|zSr<|zVzFF j2 Z jg Z Z<|zVzLi jl Z<|zd (makes_spec _) Z<|z7 (zMu Z)<|z7 (zXi Z Z)<|z7 (zXb Z Z)<|zVzAi Z<|zVzAb Z<|z6<|zc<|zi<|zc<|zw (fun j => false) (by kernel_rfl) Z (zr (.rest _))<|zTk 0 Z (zFF j2 Z jg Z Z)<|zTk 1 Z (zLi jl Z)<|zOn 2 Z<|zd (word_spec _) Z<|z6<|zTk 3 Z (Gv.eqlT Z Z)<|zTk 4 Z (zMb Z)<|AAny.case (s := 18) Z (fun c1=>?_) (fun c1=>?_)
 ·refine zTf 5 Z Z Z c1<|zTf 6 Z Z Z c1<|zTf 7 Z Z Z c1<|zTf 8 Z Z Z c1<|zTf 9 Z Z Z c1<|zTf 10 Z Z Z c1<|zTf 11 Z Z Z c1<|zTf 12 Z Z Z c1<|zTk 13 Z (zPt Z c1 Z)<|zTk 14 Z (zMb Z)<|zTf 15 Z Z Z Z<|zTf 16 Z Z Z Z<|zTf 17 Z Z Z Z<|zTf 18 Z Z Z Z<|zTf 19 Z Z Z Z<|zTk 20 Z (zPt Z Z Z)<|zTk 21 Z (zAb Z)<|zDn<|zy Z Z<|zSr<|zVzAb Z<|z6<|ze<|zk (x := .bool _) Z ?_
  exact jb (by simp_all [instOK, inst1, inst2, Int.ofNat_inj] <;> grind)
 ·refine zTt 5 Z Z Z c1 (zFF j2 Z ju Z Z)<|zTt 6 Z Z Z c1 (zLf Z1 Z)<|zTt 7 Z Z Z c1 (Gv.lenM ja Z)<|zTt 8 Z Z Z c1 (zFF j2 Z jg Z Z)<|zTt 9 Z Z Z c1 (zLi jl Z)<|zOn 10 Z<|za Z Z c1<|zd (takes_spec _) Z<|z6<|zTt 11 Z Z Z c1 (Gv.lenM Z4 Z)<|zTt 12 Z Z Z c1 (yq Z Z)<|zTk 13 Z (zPf Z c1 Z)<|zTk 14 Z (zMb Z)<|AAny.case (s := 28) Z (fun c2=>?_) (fun c2=>?_)
  ·refine zTf 15 Z Z Z c2<|zTf 16 Z Z Z c2<|zTf 17 Z Z Z c2<|zTf 18 Z Z Z c2<|zTf 19 Z Z Z c2<|zTk 20 Z (zPt Z c2 Z)<|zTk 21 Z (zAb Z)<|zDn<|zy Z Z<|zSr<|zVzAb Z<|z6<|ze<|zk (x := .bool _) Z ?_
   exact jb (by simp_all [instOK, inst1, inst2, Int.ofNat_inj] <;> grind)
  ·refine zTt 15 Z Z Z c2 (yk jp jf Z Z)<|zTt 16 Z Z Z c2 (zFF j2 Z ju Z Z)<|zTt 17 Z Z Z c2 (zLf Z1 Z)<|zOn 18 Z<|za Z Z c2<|zd (vars_spec _ _ (by omega)) Z<|z6<|zTt 19 Z Z Z c2 (Gv.not Z)<|zTk 20 Z (zPf Z c2 Z)<|zTk 21 Z (zAb Z)<|zDn<|yb Z (fun c3=>?_) (fun c3=>?_)
   ·refine zSr<|zVzAb Z<|z6<|ze<|zk (x := .bool _) Z ?_
    exact jb (by simp_all [instOK, inst1, inst2, Int.ofNat_inj] <;> grind)
   ·refine zSr<|zVzMb Z<|zVzMb Z<|zx (s := 37) Z (fun c4=>?_) (fun c4=>?_)
    ·refine za Z Z c4<|zVGvloadWF jp jf Z Z<|za Z Z c4<|zVzFF j2 Z j6 Z Z<|za Z Z c4<|zVzLi je Z<|za Z Z c4<|zd (has_spec _ _) Z<|za Z Z c4<|zVGvnot Z<|zVzPt Z c4 Z<|zVzMb Z<|zx (s := 44) Z (fun c5=>?_) (fun c5=>?_)
     ·refine z8 Z Z c5<|z8 Z Z c5<|z8 Z Z c5<|AOps.guardUd Z Z<|AOps.guardUd Z Z<|AOps.guardUd Z Z<|z8 Z Z c5<|zVzPt Z c5 Z<|zVzAb Z<|z6<|zy Z Z<|zSr<|zVzAb Z<|z6<|ze<|zk (x := .bool _) Z ?_
      exact jb (by simp_all [instOK, inst1, inst2, Int.ofNat_inj] <;> grind)
     ·refine za Z Z c5<|zVzMb Z<|za Z Z c5<|zVGvnot Z<|za Z Z c5<|zVzMb Z<|zx (s := 47) Z (fun c6=>?_) (fun c6=>?_)
      ·refine za Z Z c6<|zVzFF j2 Z j6 Z Z<|za Z Z c6<|zVzLi je Z<|za Z Z c6<|z7 (yq Z Z)<|za Z Z c5<|zVzPt Z c6 Z<|zVzPf Z c5 Z<|zVzAb Z<|z6<|yb Z (fun c7=>?_) (fun c7=>?_)
       ·refine zSr<|zVzAb Z<|z6<|ze<|zk (x := .bool _) Z ?_
        exact jb (by simp_all [instOK, inst1, inst2, Int.ofNat_inj] <;> grind)
       ·refine zj<|zSr<|zVzFF j2 Z jm Z Z<|zVzLi Z5 Z<|zVGveqlI Z Z<|zVzMb Z<|zx (s := 56) Z (fun c8=>?_) (fun c8=>?_)
        ·refine z8 Z Z c8<|z8 Z Z c8<|z8 Z Z c8<|zVzPt Z c8 Z<|zVzAb Z<|z6<|ze<|zk (x := .bool _) Z ?_
         exact jb (by simp_all [instOK, inst1, inst2, Int.ofNat_inj] <;> grind)
        ·refine za Z Z c8<|zVzFF j2 Z jg Z Z<|za Z Z c8<|zVzLi jl Z<|za Z Z c8<|zd (numbered_spec _) Z<|zVzPf Z c8 Z<|zVzAb Z<|z6<|ze<|zk (x := .bool _) Z ?_
         exact jb (by simp_all [instOK, inst1, inst2, Int.ofNat_inj] <;> grind)
      ·refine z8 Z Z c6<|z8 Z Z c6<|z8 Z Z c6<|za Z Z c5<|zVzPf Z c6 Z<|zVzPf Z c5 Z<|zVzAb Z<|z6<|zb Z Z<|zj<|zSr<|zVzFF j2 Z jm Z Z<|zVzLi Z5 Z<|zVGveqlI Z Z<|zVzMb Z<|zx (s := 56) Z (fun c9=>?_) (fun c9=>?_)
       ·refine z8 Z Z c9<|z8 Z Z c9<|z8 Z Z c9<|zVzPt Z c9 Z<|zVzAb Z<|z6<|ze<|zk (x := .bool _) Z ?_
        exact jb (by simp_all [instOK, inst1, inst2, Int.ofNat_inj] <;> grind)
       ·refine za Z Z c9<|zVzFF j2 Z jg Z Z<|za Z Z c9<|zVzLi jl Z<|za Z Z c9<|zd (numbered_spec _) Z<|zVzPf Z c9 Z<|zVzAb Z<|z6<|ze<|zk (x := .bool _) Z ?_
        exact jb (by simp_all [instOK, inst1, inst2, Int.ofNat_inj] <;> grind)
    ·refine z8 Z Z c4<|z8 Z Z c4<|z8 Z Z c4<|z8 Z Z c4<|z8 Z Z c4<|zVzPf Z c4 Z<|zVzMb Z<|za Z Z Z<|zVzMb Z<|za Z Z Z<|zVGvnot Z<|za Z Z Z<|zVzMb Z<|zx (s := 47) Z (fun c10=>?_) (fun c10=>?_)
     ·refine za Z Z c10<|zVzFF j2 Z j6 Z Z<|za Z Z c10<|zVzLi je Z<|za Z Z c10<|z7 (yq Z Z)<|za Z Z Z<|zVzPt Z c10 Z<|zVzPf Z Z Z<|zVzAb Z<|z6<|yb Z (fun c11=>?_) (fun c11=>?_)
      ·refine zSr<|zVzAb Z<|z6<|ze<|zk (x := .bool _) Z ?_
       exact jb (by simp_all [instOK, inst1, inst2, Int.ofNat_inj] <;> grind)
      ·refine zj<|zSr<|zVzFF j2 Z jm Z Z<|zVzLi Z5 Z<|zVGveqlI Z Z<|zVzMb Z<|zx (s := 56) Z (fun c12=>?_) (fun c12=>?_)
       ·refine z8 Z Z c12<|z8 Z Z c12<|z8 Z Z c12<|zVzPt Z c12 Z<|zVzAb Z<|z6<|ze<|zk (x := .bool _) Z ?_
        exact jb (by simp_all [instOK, inst1, inst2, Int.ofNat_inj] <;> grind)
       ·refine za Z Z c12<|zVzFF j2 Z jg Z Z<|za Z Z c12<|zVzLi jl Z<|za Z Z c12<|zd (numbered_spec _) Z<|zVzPf Z c12 Z<|zVzAb Z<|z6<|ze<|zk (x := .bool _) Z ?_
        exact jb (by simp_all [instOK, inst1, inst2, Int.ofNat_inj] <;> grind)
     ·refine z8 Z Z c10<|z8 Z Z c10<|z8 Z Z c10<|za Z Z Z<|zVzPf Z c10 Z<|zVzPf Z Z Z<|zVzAb Z<|z6<|zb Z Z<|zj<|zSr<|zVzFF j2 Z jm Z Z<|zVzLi Z5 Z<|zVGveqlI Z Z<|zVzMb Z<|zx (s := 56) Z (fun c13=>?_) (fun c13=>?_)
      ·refine z8 Z Z c13<|z8 Z Z c13<|z8 Z Z c13<|zVzPt Z c13 Z<|zVzAb Z<|z6<|ze<|zk (x := .bool _) Z ?_
       exact jb (by simp_all [instOK, inst1, inst2, Int.ofNat_inj] <;> grind)
      ·refine za Z Z c13<|zVzFF j2 Z jg Z Z<|za Z Z c13<|zVzLi jl Z<|za Z Z c13<|zd (numbered_spec _) Z<|zVzPf Z c13 Z<|zVzAb Z<|z6<|ze<|zk (x := .bool _) Z ?_
       exact jb (by simp_all [instOK, inst1, inst2, Int.ofNat_inj] <;> grind)
theorem term_spec (f : PFunc) (t : PTerm) : AFun prog E 69 [.agg (encF f), .agg (encTerm t)] (.bool (termOK f t)) := by
 refine zn func69 Z (by decide) Z<|zSr<|zz (cs := _) Z Z Z<|zz (cs := _) Z Z Z<|zVzAb Z<|z6<|zc<|zSr<|zVzFF jk Z sizeOf57 Z Z<|zVzLi isAgg57 Z<|z6<|zi<|zSr<|zVGveqlI Z Z<|zVzAb Z<|z6<|yb Z (fun c14=>?_) (fun c14=>?_)
 ·refine zSr<|zVGvloadWF jp jf Z Z<|zVzFF jk Z Zp Z Z<|z7 (Gv.idxAF (j := 0) Z6 j6 Z Z Z (by decide) Z)<|zVzLi je Z<|zd (at_spec _ _) Z<|zVzMb Z<|zx (s := 14) Z (fun c15=>?_) (fun c15=>?_)
  ·refine za Z Z c15<|zVzFF jk Z Zp Z Z<|za Z Z c15<|z7 (Gv.idxAF (j := 1) Z6 j6 Z Z Z (by decide) Z)<|za Z Z c15<|zVzLi je Z<|za Z Z c15<|zVGveqlI Z Z<|zVzPt Z c15 Z<|zVzMb Z<|zx (s := 20) Z (fun c16=>?_) (fun c16=>?_)
   ·refine za Z Z c16<|zVzFF jk Z j6 Z Z<|za Z Z c16<|zVzLi je Z<|za Z Z c16<|zVGveqlI Z Z<|zVzPt Z c16 Z<|zVzAb Z<|z6<|ze<|zk (x := .bool _) Z ?_
    exact jb (by simp_all [termOK] <;> grind)
   ·refine z8 Z Z c16<|z8 Z Z c16<|z8 Z Z c16<|zVzPf Z c16 Z<|zVzAb Z<|z6<|ze<|zk (x := .bool _) Z ?_
    exact jb (by simp_all [termOK] <;> grind)
  ·refine z8 Z Z c15<|z8 Z Z c15<|z8 Z Z c15<|z8 Z Z c15<|zVzPf Z c15 Z<|zVzMb Z<|z8 Z Z Z<|z8 Z Z Z<|z8 Z Z Z<|zVzPf Z Z Z<|zVzAb Z<|z6<|ze<|zk (x := .bool _) Z ?_
   exact jb (by simp_all [termOK] <;> grind)
 ·refine zSr<|zVGveqlI Z Z<|zVzAb Z<|z6<|yb Z (fun c17=>?_) (fun c17=>?_)
  ·refine zSr<|zVGvloadWF jp jf Z Z<|zVzFF jk Z j6 Z Z<|zVzLi je Z<|zd (has_spec _ _) Z<|zVzMb Z<|zx (s := 31) Z (fun c18=>?_) (fun c18=>?_)
   ·refine za Z Z c18<|zVGvloadWF jp jf Z Z<|za Z Z c18<|zVzFF jk Z Zp Z Z<|za Z Z c18<|z7 (Gv.idxAF (j := 0) Z6 j6 Z Z Z (by decide) Z)<|za Z Z c18<|zVzLi je Z<|za Z Z c18<|zd (at_spec _ _) Z<|zVzPt Z c18 Z<|zVzMb Z<|zx (s := 38) Z (fun c19=>?_) (fun c19=>?_)
    ·refine za Z Z c19<|zVGvloadWF jp jf Z Z<|za Z Z c19<|zVzFF jk Z Zp Z Z<|za Z Z c19<|z7 (Gv.idxAF (j := 1) Z6 j6 Z Z Z (by decide) Z)<|za Z Z c19<|zVzLi je Z<|za Z Z c19<|zd (at_spec _ _) Z<|zVzPt Z c19 Z<|zVzAb Z<|z6<|ze<|zk (x := .bool _) Z ?_
     exact jb (by simp_all [termOK] <;> grind)
    ·refine z8 Z Z c19<|z8 Z Z c19<|z8 Z Z c19<|z8 Z Z c19<|z8 Z Z c19<|zVzPf Z c19 Z<|zVzAb Z<|z6<|ze<|zk (x := .bool _) Z ?_
     exact jb (by simp_all [termOK] <;> grind)
   ·refine z8 Z Z c18<|z8 Z Z c18<|z8 Z Z c18<|z8 Z Z c18<|z8 Z Z c18<|zVzPf Z c18 Z<|zVzMb Z<|z8 Z Z Z<|z8 Z Z Z<|z8 Z Z Z<|z8 Z Z Z<|z8 Z Z Z<|zVzPf Z Z Z<|zVzAb Z<|z6<|ze<|zk (x := .bool _) Z ?_
    exact jb (by simp_all [termOK] <;> grind)
  ·refine zSr<|zVGveqlI Z Z<|zVzAb Z<|z6<|yb Z (fun c20=>?_) (fun c20=>?_)
   ·refine zSr<|zVGvloadWF jp jf Z Z<|zVzFF jk Z j6 Z Z<|zVzLi je Z<|zd (has_spec _ _) Z<|zVzMb Z<|zx (s := 51) Z (fun c21=>?_) (fun c21=>?_)
    ·refine za Z Z c21<|zVzFF jk Z Zp Z Z<|za Z Z c21<|zVGvloadWF isAgg58 Zp Z Z<|za Z Z c21<|z7 (Gv.buildA (cps := []) (rs := [.int .i64 0, .int .i64 0]) pl58 Z Z Z)<|za Z Z c21<|z7 (Gv.eqlP (xs := [.int _ _, .int _ _]) (ys := [.int _ _, .int _ _]) (by kernel_rfl) Z Z (fun w => eq_arr10 _ _ _ _ w))<|zVzPt Z c21 Z<|zVzAb Z<|z6<|ze<|zk (x := .bool _) Z ?_
     exact jb (by simp_all [termOK] <;> grind)
    ·refine z8 Z Z c21<|z8 Z Z c21<|z8 Z Z c21<|z8 Z Z c21<|zVzPf Z c21 Z<|zVzAb Z<|z6<|ze<|zk (x := .bool _) Z ?_
     exact jb (by simp_all [termOK] <;> grind)
   ·refine zj<|zSr<|zVzAb Z<|z6<|ze<|zk (x := .bool _) Z ?_
    exact jb (by simp_all [termOK] <;> grind)
def encS (s : ByteArray) : List AV := [.str s]
def Pows (E : World) : Prop := Lib.TabIs prog E "internal/strconv.uint64pow10" .u64 Lib.pow10Tab
theorem tab_up {P : Program} {name : String} {k : IntKind} {zs : List Int} {I : Ghost} {O : List (Nat × Obj)} {w : World} (h : Lib.TabIs P E name k zs) (hS : SL I O E w) : Lib.TabIs P w name k zs := by
 unfold Lib.TabIs World.var? at *
 cases hg : P.globalNamed name with
 | none => rw [hg] at h; cases h
 | some g =>
  rw [hg] at h
  simp only [Option.bind_some] at h ⊢
  cases hh : E.heap[g]? with
  | none => rw [hh] at h; cases h
  | some o => rw [hh] at h; rw [hS.pers _ _ (hS.base _ _ hh)]; exact h
theorem formatInt_spec (n : Int) (hn : -9223372036854775808 ≤ n ∧ n ≤ 9223372036854775807) (hT : Pows E) : AFun prog E 18 [.int .i64 n, .int .i64 10] (.str ⟨(Lib.itoa n).toArray⟩) := fun I F w vs h1 h2 => by
 obtain ⟨v, us, rfl, h3, v2, us2, rfl, h4, h5⟩ := h1
 have h3 : v = .int .i64 n := h3
 have h4 : v2 = .int .i64 10 := h4
 have h5 : us2 = [] := h5
 subst h3 h4 h5
 obtain ⟨ht, L, hL, hS⟩ := h2
 have hL : L = [] := hL
 subst hL
 refine Fn.ofCalls func18 Z (by decide) ?_
 exact (Tryz.strconv_FormatInt_10 n hn.1 hn.2 w (tab_up hT hS)).mono fun e w' ⟨he, k, os, hw⟩ => ⟨_, he, I, .str ⟨(Lib.itoa n).toArray⟩, [], .refl _, rfl, ⟨ht, [], rfl, by
  subst hw
  exact hS.more rfl rfl rfl (fun k hk => Array.getElem?_append_left hk)⟩, rfl⟩
end Go.Proofs.YtoicilchhkndmaaGreatDoor
namespace Go.Proofs.YtoicilchhkndmaaGreatDoor
open Go.Proofs.Tryz
section
variable {E : World} {P : Program} {env : AEnv} {O : OL} {d ty : Nat} {pos : String} {af : Array Edge} {x y : Operand} {t u e : TypeId}
theorem Gv.rem {k : IntKind} {a b : Int} (hx : aev env x = .int k a) (hy : aev env y = .int k b) (hb : b ≠ 0) : Gv P env O (Oper.mk (some d) (.binOp .rem t x y u) ty pos af none) (.int k (a.tmod b)) := Gv.ofEv fun I ρ h => ⟨_, rfl, fun w => by
 rw [run_bin_int (evI h hx) (evI h hy) (by decide) (by decide)]; simp [binOp, Op.intDiv, hb]⟩
theorem Gv.quo {k : IntKind} {a b : Int} (hx : aev env x = .int k a) (hy : aev env y = .int k b) (hb : b ≠ 0) : Gv P env O (Oper.mk (some d) (.binOp .quo t x y u) ty pos af none) (.int k (k.wrap (a.tdiv b))) := Gv.ofEv fun I ρ h => ⟨_, rfl, fun w => by
 rw [run_bin_int (evI h hx) (evI h hy) (by decide) (by decide)]; simp [binOp, Op.intDiv, hb]⟩
theorem Gv.neg {k : IntKind} {a : Int} (hx : aev env x = .int k a) : Gv P env O (Oper.mk (some d) (.unOp .neg t x) ty pos af none) (.int k (k.wrap (0 - a))) := Gv.ofEv fun I ρ h => ⟨_, rfl, fun w => by
 simp [execOp, evI h hx, Op.unary, Op.intArith]⟩
theorem Gv.conv {k k' : IntKind} {a : Int} {ds : TypeDesc} {src dst : TypeId} (hs : P.underlying src = some ds) (hd : P.underlying dst = some (.int k')) (hx : aev env x = .int k a) : Gv P env O (Oper.mk (some d) (.convert src dst x) ty pos af none) (.int k' (k'.wrap a)) := Gv.ofEv fun I ρ h => ⟨_, rfl, fun w => by
 simp only [execOp, evI h hx]
 cases ds <;> simp [convert, run_underlying hs, run_underlying hd, Conv.intToInt]⟩
end
end Go.Proofs.YtoicilchhkndmaaGreatDoor
namespace Go.Proofs.YtoicilchhkndmaaGreatDoor
open Go.Proofs.Tryz
section
variable {E : World} {P : Program} {n : Nat} {l : List Oper} {W : Nat → Bool} {Q : AEnv → OL → Prop} {fuel : Nat} {listed : Array Bool} {env : AEnv} {O Os Om : OL}
theorem AAny.two {i j : Nat} {o o' : Oper} (hi : l[i]? = some o) (hj : l[j]? = some o') (hr : Region.ready .any l.toArray listed = [i, j])
  (h : AOps P E l.toArray (fun env' Om' => AAny P E l W Q fuel (listed.setIfInBounds i true) env' Os Om') [o] env Om)
  (h' : AOps P E l.toArray (fun env' Om' => AAny P E l W Q fuel (listed.setIfInBounds j true) env' Os Om') [o'] env Om) : AAny P E l W Q (fuel + 1) listed env Os Om := fun I F ρ w Ls h1 hLs h2 => by
 have key : ∀ k ok, AOps P E l.toArray (fun env' Om' => AAny P E l W Q fuel (listed.setIfInBounds k true) env' Os Om') [ok] env Om →
   Ops P l.toArray (fun ρ' w' => (stays I.k [] E w' ∧ (dirty W (listed.setIfInBounds k true) ∨ stays I.k Ls E w')) ∧ AnyV P l.toArray (stays I.k [] E) (stays I.k Ls E) W (postK I F E Q) fuel (listed.setIfInBounds k true) ρ' w') [ok] ρ w := fun k ok h =>
  yv (fun ρ' w' ⟨J, env', Om', a, b, c, d⟩ => by
   have hst : stays I.k Ls E w' := by
    obtain ⟨J', L', h3, h4, h5⟩ := c.here
    exact ⟨J', L', a.k.trans h3, h4, h5⟩
   refine ⟨⟨hst.less, .inr hst⟩, AnyV.mono ?_ ?_ (fun _ _ => yw a) _ _ _ _ (d J F ρ' w' Ls b (hLs.mono a) c)⟩
   ·rintro w ⟨J', L', h3, h4⟩; exact ⟨J', L', a.k.trans h3, h4⟩
   ·rintro w ⟨J', L', h3, h4⟩; exact ⟨J', L', a.k.trans h3, h4⟩) _ _ _ (h I (Ls ++ F) ρ w h1 h2)
 refine ⟨fun h0 => (by rw [hr] at h0; cases h0), fun k hk o2 ho2 => ?_⟩
 rw [hr] at hk
 simp only [List.mem_cons, List.not_mem_nil, or_false] at hk
 rw [List.getElem?_toArray] at ho2
 rcases hk with rfl | rfl
 ·rw [hi] at ho2; cases ho2; exact key _ _ h
 ·rw [hj] at ho2; cases ho2; exact key _ _ h'
end
end Go.Proofs.YtoicilchhkndmaaGreatDoor
namespace Go.Proofs.YtoicilchhkndmaaGreatDoor
open Go.Proofs.Tryz
section
variable {E : World} {P : Program} {n : Nat} {l : List Oper} {W : Nat → Bool} {Q : AEnv → OL → Prop} {fuel : Nat} {listed : Array Bool} {env : AEnv} {O Os Om : OL}
theorem AAny.three {i j m : Nat} {o o' o'' : Oper} (hi : l[i]? = some o) (hj : l[j]? = some o') (hm : l[m]? = some o'') (hr : Region.ready .any l.toArray listed = [i, j, m])
  (h : AOps P E l.toArray (fun env' Om' => AAny P E l W Q fuel (listed.setIfInBounds i true) env' Os Om') [o] env Om)
  (h' : AOps P E l.toArray (fun env' Om' => AAny P E l W Q fuel (listed.setIfInBounds j true) env' Os Om') [o'] env Om)
  (h'' : AOps P E l.toArray (fun env' Om' => AAny P E l W Q fuel (listed.setIfInBounds m true) env' Os Om') [o''] env Om) : AAny P E l W Q (fuel + 1) listed env Os Om := fun I F ρ w Ls h1 hLs h2 => by
 have key : ∀ k ok, AOps P E l.toArray (fun env' Om' => AAny P E l W Q fuel (listed.setIfInBounds k true) env' Os Om') [ok] env Om →
   Ops P l.toArray (fun ρ' w' => (stays I.k [] E w' ∧ (dirty W (listed.setIfInBounds k true) ∨ stays I.k Ls E w')) ∧ AnyV P l.toArray (stays I.k [] E) (stays I.k Ls E) W (postK I F E Q) fuel (listed.setIfInBounds k true) ρ' w') [ok] ρ w := fun k ok h =>
  yv (fun ρ' w' ⟨J, env', Om', a, b, c, d⟩ => by
   have hst : stays I.k Ls E w' := by
    obtain ⟨J', L', h3, h4, h5⟩ := c.here
    exact ⟨J', L', a.k.trans h3, h4, h5⟩
   refine ⟨⟨hst.less, .inr hst⟩, AnyV.mono ?_ ?_ (fun _ _ => yw a) _ _ _ _ (d J F ρ' w' Ls b (hLs.mono a) c)⟩
   ·rintro w ⟨J', L', h3, h4⟩; exact ⟨J', L', a.k.trans h3, h4⟩
   ·rintro w ⟨J', L', h3, h4⟩; exact ⟨J', L', a.k.trans h3, h4⟩) _ _ _ (h I (Ls ++ F) ρ w h1 h2)
 refine ⟨fun h0 => (by rw [hr] at h0; cases h0), fun k hk o2 ho2 => ?_⟩
 rw [hr] at hk
 simp only [List.mem_cons, List.not_mem_nil, or_false] at hk
 rw [List.getElem?_toArray] at ho2
 rcases hk with rfl | rfl | rfl
 ·rw [hi] at ho2; cases ho2; exact key _ _ h
 ·rw [hj] at ho2; cases ho2; exact key _ _ h'
 ·rw [hm] at ho2; cases ho2; exact key _ _ h''
end
theorem ACall.know {E : World} {P : Program} {f : FuncId} {as0 : List AV} {O : OL} {R R' : AV → OL → Prop} (h : ACall P E f as0 O R) (hr : ∀ I F w v x O', R x O' → RepV I x v → SLA I O' F E w → ∃ J y O'', I.le J ∧ RepV J y v ∧ SLA J O'' F E w ∧ R' y O'') : ACall P E f as0 O R' := fun I F w vs h1 h2 =>
 (h I F w vs h1 h2).mono fun v w' ⟨J, x, O', a, b, c, d⟩ => by
  obtain ⟨K, y, O'', e1, e2, e3, e4⟩ := hr J F w' v x O' d b c
  exact ⟨K, y, O'', a.trans e1, e2, e3, e4⟩
end Go.Proofs.YtoicilchhkndmaaGreatDoor
namespace Go.Proofs.YtoicilchhkndmaaGreatDoor
open Go.Proofs.Tryz
open Go.Proofs Go.Lib Go.Shelf Go.RowKit
set_option maxRecDepth 20000
variable {E : World}
def Letters (E : World) : Prop := Lib.TabIs prog E "unicode.properties" .u8 Lib.propertiesTab ∧ RVar 7 letterT E
theorem letter_spec (c : Int) (h1 : -2147483648 ≤ c) (h2 : c ≤ 2147483647) (hL : Letters E) : AFun prog E 147 [.int .i32 c] (.bool (isLetterU c)) :=
 AFun.ofBelow (vs := [.int .i32 c]) (r := .bool (isLetterU c)) func147 rfl (by decide) rfl fun w hw => Tryz.unicode_IsLetter_all c w h1 h2 (TabIs_below (g := 6) (by kernel_rfl) hL.1 hw) (RVar_below hL.2 hw)
theorem decode_ok (s : ByteArray) (p : Nat) : 1 ≤ (Utf8.decode s p).2 ∧ (Utf8.decode s p).1 ≤ 2097151 := by
 have h256 : ∀ k, (s.get! k).toNat < 256 := fun k => (s.get! k).toNat_lt
 unfold Utf8.decode
 dsimp only
 constructor
 ·repeat' split
  all_goals simp
 ·have h0 := h256 (p + 0)
  have h1 := h256 (p + 1)
  have h2 := h256 (p + 2)
  have h3 := h256 (p + 3)
  repeat' split
  all_goals (simp only [Utf8.runeError]; omega)
def okRune (c : Int) (n : Nat) : Bool := (isLetterU c && !decide (c = 65533)) || (!decide ((n : Int) = 0) && ((decide (48 ≤ c) && decide (c ≤ 57)) || decide (c = 46) || decide (c = 95)))
def nameFrom (s : ByteArray) (p n : Nat) : Bool :=
 if h : p < s.size then (if okRune (Utf8.decode s p).1 n then nameFrom s (p + (Utf8.decode s p).2) (n + 1) else false) else decide ((1 : Int) ≤ n) && decide ((n : Int) ≤ 16)
termination_by s.size - p
decreasing_by have := (decode_ok s p).1; omega
def nameB (s : ByteArray) : Bool := nameFrom s 0 0
def strL (l : List UInt8) : ByteArray := ⟨l.toArray⟩
end Go.Proofs.YtoicilchhkndmaaGreatDoor
namespace Go.Proofs.YtoicilchhkndmaaGreatDoor
open Go.Proofs.Tryz
open Go.Proofs Go.Lib Go.Shelf Go.RowKit
set_option maxRecDepth 20000
variable {E : World}
def PhiP (f : PFunc) (p : PPhi) : Prop := hasV f p.dst = true ∧ p.args.length = p.from_.length ∧ 1 ≤ p.args.length ∧ p.args.all (hasV f) = true ∧ p.from_.all (hasB f) = true
def wordB (x : PInst) : Bool := decide ((kRow x.op).1 = ⟨#[99, 111, 110, 115, 116]⟩) || decide ((kRow x.op).1 = ⟨#[112, 105]⟩)
def bad2 (f : PFunc) (x : PInst) : Bool := !decide ((x.args.length : Int) = ((kRow x.op).2.1.size : Int)) || (!(decide ((kRow x.op).2.2 = ⟨#[]⟩) == decide (x.dst = -1)) || ((!decide (x.dst = -1) && !hasV f x.dst) || (!decide (x.num = 0) && !wordB x)))
def InstP (f : PFunc) (x : PInst) : Prop := 0 ≤ x.op ∧ x.op ≤ 26 ∧ bad2 f x = false ∧ x.args.all (hasV f) = true
def BlkP (f : PFunc) (b : PBlock) : Prop := (∀ p ∈ b.phis, PhiP f p) ∧ (∀ x ∈ b.insts, InstP f x) ∧ termOK f b.term = true
def sumTo (l : List PBlock) : Nat := (l.map fun b => b.phis.length + b.insts.length).sum
def bad1 (f : PFunc) : Bool := decide ((512 : Int) < f.vars.length) || (decide ((8 : Int) < f.params.length) || (decide ((f.vars.length : Int) < f.params.length) || (decide ((f.blocks.length : Int) < 1) || decide ((64 : Int) < f.blocks.length))))
def VarP (f : PFunc) (i : Nat) (v : PVar) : Prop := nameB v.name = true ∧ 0 ≤ v.ty ∧ v.ty ≤ 2 ∧ ∀ s ∈ (f.vars.take i).map (·.name), s ≠ v.name
def NamP (f : PFunc) (i : Nat) (b : PBlock) : Prop := nameB b.name = true ∧ ∀ s ∈ (f.blocks.take i).map (·.name), s ≠ b.name
def ShapedP (f : PFunc) : Prop := bad1 f = false ∧ (∀ i (h : i < f.params.length), f.params[i] = (i : Int)) ∧ (∀ i (h : i < f.vars.length), VarP f i f.vars[i]) ∧ (∀ i (h : i < f.blocks.length), NamP f i f.blocks[i]) ∧ sumTo f.blocks ≤ 1024 ∧ ∀ b ∈ f.blocks, BlkP f b
instance (f : PFunc) (p : PPhi) : Decidable (PhiP f p) := by unfold PhiP; infer_instance
instance (f : PFunc) (x : PInst) : Decidable (InstP f x) := by unfold InstP; infer_instance
instance (f : PFunc) (b : PBlock) : Decidable (BlkP f b) := by unfold BlkP; infer_instance
instance (f : PFunc) (i : Nat) (v : PVar) : Decidable (VarP f i v) := by unfold VarP; infer_instance
instance (f : PFunc) (i : Nat) (b : PBlock) : Decidable (NamP f i b) := by unfold NamP; infer_instance
instance (f : PFunc) : Decidable (ShapedP f) := by unfold ShapedP; infer_instance
theorem sumTo_succ (l : List PBlock) (k : Nat) (h : k < l.length) : sumTo (l.take (k + 1)) = sumTo (l.take k) + (l[k].phis.length + l[k].insts.length) := by
 unfold sumTo; rw [q4 h, List.map_append, List.sum_append]; simp only [List.map_cons, List.map_nil, List.sum_cons, List.sum_nil, Nat.add_zero]
theorem all_take {α : Type} {p : α → Bool} {l : List α} {k : Nat} (h : k < l.length) (h1 : (l.take k).all p = true) (h2 : p l[k] = true) : (l.take (k + 1)).all p = true := by
 rw [q4 h, List.all_append, h1]; simp [h2]
theorem all_bad {α : Type} {p : α → Bool} {l : List α} {k : Nat} (h : k < l.length) (h2 : p l[k] = false) : ¬ l.all p = true := fun h3 => by
 have := List.all_eq_true.1 h3 _ (q6 h); rw [h2] at this; cases this
theorem forall_take {α : Type} {p : α → Prop} {l : List α} {k : Nat} (h : k < l.length) (h1 : ∀ x ∈ l.take k, p x) (h2 : p l[k]) : ∀ x ∈ l.take (k + 1), p x := by
 rw [q4 h]
 intro x hx
 rcases List.mem_append.1 hx with hx | hx
 ·exact h1 x hx
 ·rw [List.mem_singleton.1 hx]; exact h2
def okNames (f : PFunc) : Prop := (∀ v ∈ f.vars, v.name.size ≤ 140737488355328) ∧ ∀ b ∈ f.blocks, b.name.size ≤ 140737488355328
end Go.Proofs.YtoicilchhkndmaaGreatDoor
namespace Go.Proofs.YtoicilchhkndmaaGreatDoor
open Go.Proofs.Tryz
theorem Pick.perm {O O' : OL} {i : Nat} {o : AObj} (h : Pick O i o O') : O.Perm ((i, o) :: O') := by
 induction h with
 | head => exact .refl _
 | tail _ ih => exact (ih.cons _).trans (.swap _ _ _)
section
variable {E : World} {P : Program} {f : FuncId} {as0 : List AV} {O : OL}
theorem ACall.frozen {k m : Nat} {T : TypeId} {rows : List (List AV)} (h : ACall P E f as0 [] (fun y O' => ∃ i : Nat, y = .own i m ∧ Left O' [(i, .grow k T rows.flatten)] ∧ True)) (hk : ∀ r ∈ rows, r.length = k) (hk0 : 0 < k) (hm : rows.length = m) : AFun P E f as0 (.fro k rows) :=
 h.know fun I F w v y O' ⟨i, e, hl, _⟩ h1 h2 => by
  subst e
  obtain ⟨J, h3, h4, h5⟩ := Go.Proofs.YtoicilchhkndmaaGreatDoor.know .head hk hk0 hm (hl.sla h2)
  exact ⟨J, _, [], h3, h5 _ h1, h4, rfl⟩
end
end Go.Proofs.YtoicilchhkndmaaGreatDoor
namespace Go.Proofs.YtoicilchhkndmaaGreatDoor
open Go.Proofs.Tryz
open Go.Proofs Go.Lib Go.Shelf Go.RowKit
theorem pl26 : Places prog 26 #[(0, 1), (1, 1), (2, 1)] [.raw (.slice none 0 0), .raw (.slice none 0 0), .raw (.slice none 0 0)] := ⟨_, _, jd, zeroValue26, fun w => by kernel_rfl, rfl⟩
theorem pl62 : Places prog 62 #[(0, 1), (1, 1), (2, 1), (3, 4)] [.str ⟨#[]⟩, .raw (.slice none 0 0), .raw (.slice none 0 0), .int .i64 0, .int .i64 0, .int .i64 0, .int .i64 0] := ⟨_, _, j9, Zl, fun w => by kernel_rfl, rfl⟩
theorem pl64 : Places prog 64 #[(0, 1), (1, 1), (2, 1)] [.int .i64 0, .raw (.slice none 0 0), .raw (.slice none 0 0)] := ⟨_, _, jq, Y1, fun w => by kernel_rfl, rfl⟩
theorem ps55_1 : PlacesS prog 55 64 1 3 [.int .i64 0, .raw (.slice none 0 0), .raw (.slice none 0 0)] := ⟨_, jw, Z8, Y1, by decide, by decide, by kernel_rfl⟩
theorem ps56_1 : PlacesS prog 56 67 1 4 [.int .i64 0, .int .i64 0, .raw (.slice none 0 0), .int .i64 0] := ⟨_, jx, Z9, zeroValue67, by decide, by decide, by kernel_rfl⟩
theorem ps24_1 : PlacesS prog 24 62 1 7 [.str ⟨#[]⟩, .raw (.slice none 0 0), .raw (.slice none 0 0), .int .i64 0, .int .i64 0, .int .i64 0, .int .i64 0] := ⟨_, js, Z3, Zl, by decide, by decide, by kernel_rfl⟩
set_option maxRecDepth 20000
variable {E : World}
def smallBlk (b : PBlock) : Prop := b.name.size ≤ 1000 ∧ b.phis.length ≤ 1000 ∧ b.insts.length ≤ 1000 ∧ (∀ p ∈ b.phis, p.args.length ≤ 1000 ∧ p.from_.length ≤ 1000) ∧ ∀ x ∈ b.insts, x.args.length ≤ 1000
def small (f : PFunc) : Prop := f.vars.length ≤ 1000 ∧ f.params.length ≤ 1000 ∧ f.blocks.length ≤ 1000 ∧ (∀ v ∈ f.vars, v.name.size ≤ 1000) ∧ ∀ b ∈ f.blocks, smallBlk b
theorem small.ok {f : PFunc} (h : small f) : okFunc f := by
 obtain ⟨h1, h2, h3, h4, h5⟩ := h
 refine ⟨by unfold okL; omega, by unfold okL; omega, by unfold okL; omega, fun b hb => ?_⟩
 obtain ⟨g1, g2, g3, g4, g5⟩ := h5 b hb
 exact ⟨by unfold okL; omega, by unfold okL; omega, fun p hp => ⟨by have := g4 p hp; unfold okL; omega, by have := g4 p hp; unfold okL; omega⟩, fun x hx => by have := g5 x hx; unfold okL; omega⟩
theorem small.names {f : PFunc} (h : small f) : okNames f := ⟨fun v hv => by have := h.2.2.2.1 v hv; omega, fun b hb => by have := (h.2.2.2.2 b hb).1; omega⟩
theorem all_cell {α : Type} {enc : α → List AV} (h : ∀ x, (enc x).all AV.cell = true) (xs : List α) : (xs.map enc).flatten.all AV.cell = true := by
 induction xs with
 | nil => rfl
 | cons x xs ih => simp only [List.map_cons, List.flatten_cons, List.all_append, h, ih, Bool.and_self]
theorem cloneI_own (xs : List Int) (hl : xs.length ≤ 1000) : ACall prog E 42 [.fro 1 (xs.map encI)] [] (fun x O' => ∃ i : Nat, x = .own i xs.length ∧ Left O' [(i, .grow 1 3 (xs.map encI).flatten)] ∧ True) := by
 refine zn func42 Z (by decide) Z<|zSr<|z7 (zAr Z)<|z6<|zc<|zSr<|zVzMf Z<|AOps.isNil ja Z Z (fun hnil=>?_) ?_
 ·have hx : xs = [] := by simpa using hnil
  subst hx
  refine z6<|zy Z Z<|zSr<|z7 (zAr Z)<|z6<|ze ?_
  repeat (first | refine aseqQ_ret ?_ | refine ablockQ_ret ?_)
  refine adopt_fin (s := 2) (k := 1) (T := 3) Z (fun i=>?_)
  refine zk (x := .own _ _) Z ?_
  exact ⟨i, rfl, .refl _, trivial⟩
 ·refine z6<|zb Z Z<|zj<|zSr<|AOps.buildSlice0 (k := 1) ja type3<|fun i5 => zVzMf Z<|yo (k := 1) ja type3 Z Z Z Z Z (fun _ => .head) (by simp) (by decide) (all_cell (fun _ => Z) xs) (by show (_ + _) * 8 ≤ _; simp <;> omega) (by simp <;> omega)<|fun i7 => z7 (zAo Z)<|z6<|ze<|zk (x := .own _ _) Z ?_
  exact ⟨i7, (by simp), ⟨_, .refl _, rfl⟩, trivial⟩
theorem cloneV_own (xs : List PVar) (hl : xs.length ≤ 1000) : ACall prog E 41 [.fro 2 (xs.map encVar)] [] (fun x O' => ∃ i : Nat, x = .own i xs.length ∧ Left O' [(i, .grow 2 54 (xs.map encVar).flatten)] ∧ True) := by
 refine zn func41 Z (by decide) Z<|zSr<|z7 (zAr Z)<|z6<|zc<|zSr<|zVzMf Z<|AOps.isNil jz Z Z (fun hnil=>?_) ?_
 ·have hx : xs = [] := by simpa using hnil
  subst hx
  refine z6<|zy Z Z<|zSr<|z7 (zAr Z)<|z6<|ze ?_
  repeat (first | refine aseqQ_ret ?_ | refine ablockQ_ret ?_)
  refine adopt_fin (s := 2) (k := 2) (T := 54) Z (fun i=>?_)
  refine zk (x := .own _ _) Z ?_
  exact ⟨i, rfl, .refl _, trivial⟩
 ·refine z6<|zb Z Z<|zj<|zSr<|AOps.buildSlice0 (k := 2) jz type54<|fun i5 => zVzMf Z<|yo (k := 2) jz type54 Z Z Z Z Z (fun _ => .head) (by simp) (by decide) (all_cell (fun _ => Z) xs) (by show (_ + _) * 24 ≤ _; simp <;> omega) (by simp <;> omega)<|fun i7 => z7 (zAo Z)<|z6<|ze<|zk (x := .own _ _) Z ?_
  exact ⟨i7, (by simp), ⟨_, .refl _, rfl⟩, trivial⟩
theorem cloneI_spec (xs : List Int) (hl : xs.length ≤ 1000) : AFun prog E 42 [.fro 1 (xs.map encI)] (.fro 1 (xs.map encI)) := (cloneI_own xs hl).frozen (by simp [encI]) (by decide) (by simp)
theorem cloneV_spec (xs : List PVar) (hl : xs.length ≤ 1000) : AFun prog E 41 [.fro 2 (xs.map encVar)] (.fro 2 (xs.map encVar)) := (cloneV_own xs hl).frozen (by simp [encVar]) (by decide) (by simp)
theorem copyB_own (f : PFunc) (hf : small f) : ACall prog E 23 [.agg (encF f)] [] (fun x O' => ∃ i : Nat, x = .agg [.fro 2 (f.vars.map encVar), .fro 1 (f.params.map encI), .own i f.blocks.length] ∧ Left O' [(i, .grow 7 62 (f.blocks.map encBlk).flatten)] ∧ True) := by
 obtain ⟨hf1, hf2, hf3, hf4, hf5⟩ := hf
 refine zn func23 Z (by decide) Z<|zSr<|zz (cs := _) Z Z Z<|zo (cs := [.raw (.slice none 0 0), .raw (.slice none 0 0), .raw (.slice none 0 0)]) zeroValue26 Z Z<|fun i2 => z6<|zc<|AWP.cutS (γ := Nat) [1, 2] (fun i => [(3, .po i 0)]) (fun i => [(i, .cells 26 [.fro 2 (f.vars.map encVar), .fro 1 (f.params.map encI), .raw (.slice none 0 0)]), (i2, .cells 26 [.raw (.slice none 0 0), .raw (.slice none 0 0), .raw (.slice none 0 0)])]) (fun i => True) ?_ (fun _ _ h => h) ?_
 ·refine zw (fun j => Nat.beq j 8) (by kernel_rfl) Z (zr (.rest _))<|zTk 0 Z (zFF jd Z Y5 Z Z)<|zTk 1 Z (zLf isAgg22 Z)<|zTk 3 Z (zFF jd Z ju Z Z)<|zTk 4 Z (zLf Z1 Z)<|AAny.two (i := 2) (j := 7) Z Z (by kernel_rfl) ?_ ?_
  ·refine zd (cloneV_spec _ (by omega)) Z<|z6<|AAny.two (i := 5) (j := 7) Z Z (by kernel_rfl) ?_ ?_
   ·refine zd (cloneI_spec _ (by omega)) Z<|z6<|zTk 6 Z (yn (cps := [(0, [_]), (1, [_])]) (rs := [_, _, .raw (.slice none 0 0)]) pl26 Z Z Z)<|zOn 7 Z<|zo (cs := [.raw (.slice none 0 0), .raw (.slice none 0 0), .raw (.slice none 0 0)]) zeroValue26 Z Z<|fun i3 => z6<|y8<|zu (i := 8) Z (by kernel_rfl) (by kernel_rfl)<|zg jf Z Z Z Z Z Z .head Z<|z6<|ya (by kernel_rfl) ?_
    exact ⟨i3, zR2, zR1, zLe, trivial⟩
   ·refine zo (cs := [.raw (.slice none 0 0), .raw (.slice none 0 0), .raw (.slice none 0 0)]) zeroValue26 Z Z<|fun i3 => z6<|zOn 5 Z<|zd (cloneI_spec _ (by omega)) Z<|z6<|zTk 6 Z (yn (cps := [(0, [_]), (1, [_])]) (rs := [_, _, .raw (.slice none 0 0)]) pl26 Z Z Z)<|y8<|zu (i := 8) Z (by kernel_rfl) (by kernel_rfl)<|zg jf Z Z Z Z Z Z .head Z<|z6<|ya (by kernel_rfl) ?_
    exact ⟨i3, zR2, zR1, zLe, trivial⟩
  ·refine zo (cs := [.raw (.slice none 0 0), .raw (.slice none 0 0), .raw (.slice none 0 0)]) zeroValue26 Z Z<|fun i3 => z6<|zOn 2 Z<|zd (cloneV_spec _ (by omega)) Z<|z6<|zOn 5 Z<|zd (cloneI_spec _ (by omega)) Z<|z6<|zTk 6 Z (yn (cps := [(0, [_]), (1, [_])]) (rs := [_, _, .raw (.slice none 0 0)]) pl26 Z Z Z)<|y8<|zu (i := 8) Z (by kernel_rfl) (by kernel_rfl)<|zg jf Z Z Z Z Z Z .head Z<|z6<|ya (by kernel_rfl) ?_
   exact ⟨i3, zR2, zR1, zLe, trivial⟩
 ·rintro i3 _
  refine zc<|zSr<|zVzFF jd Z Zm Z Z<|zVzLf Y4 Z<|zVGvlenM js Z<|zVzMi Z<|z6<|adoptC_wp (off := 2) (k := 7) (T := 62) (fun _ => .head) Z<|fun ib => zi<|yg (γ := Nat × Nat) [2, 3, 19, 20] (fun g => [(21, .int .i64 g.1)]) (fun g => [(g.2, .grow 7 62 ((f.blocks.take g.1).map encBlk).flatten), (i3, .cells 26 [.fro 2 (f.vars.map encVar), .fro 1 (f.params.map encI), .own g.2 g.1]), (i2, .cells 26 [.raw (.slice none 0 0), .raw (.slice none 0 0), .raw (.slice none 0 0)])]) (fun g => g.1 ≤ f.blocks.length) (fun g => f.blocks.length - g.1) (0, ib) zR1 zLe (q5 _) ?_
  rintro ⟨k, ib⟩ hk
  try dsimp only at *
  refine zSr<|zVGvlss Z Z<|z6<|zc<|y9 Z (fun ck=>?_) (fun ck=>?_)
  ·have hk2 : k < f.blocks.length := by omega
   obtain ⟨hb0, hb1, hb2, hb3, hb4⟩ := hf5 _ (q6 hk2)
   refine zj<|zc<|zi<|zSr<|z7 (Gv.idxM js Z3 Z Z Z (q3 (by omega)))<|zVGvloadWF isAgg62 Z3 Z Z<|zo (cs := [.str ⟨#[]⟩, .raw (.slice none 0 0), .raw (.slice none 0 0), .int .i64 0, .int .i64 0, .int .i64 0, .int .i64 0]) Zl Z Z<|fun i5 => zg Z3 Z Z Z Z Z Z .head Z<|z6<|zSr<|z7 (zf j9 Z Zt (by decide) Z Z)<|z7 (zt (c := .str _) Y2 Z ⟨_, .head⟩ Z)<|z7 (zf j9 Z sizeOf60 (by decide) Z Z)<|z7 (Gv.loadAC (l := [_, _, _, _]) isAgg60 sizeOf60 Z ⟨_, .head⟩ Z Z)<|z7 (yn (cps := [(0, [_]), (3, [_, _, _, _])]) (rs := [_, .raw (.slice none 0 0), .raw (.slice none 0 0), _, _, _, _]) pl62 Z Z Z)<|zo (cs := [.str ⟨#[]⟩, .raw (.slice none 0 0), .raw (.slice none 0 0), .int .i64 0, .int .i64 0, .int .i64 0, .int .i64 0]) Zl Z Z<|fun i6 => zg Z3 Z Z Z Z Z Z .head Z<|z6<|zc<|zSr<|z7 (zf j9 Z Zq (by decide) Z Z)<|z7 (zt (c := .fro _ _) isAgg55 Z ⟨_, .t1⟩ Z)<|zVGvlenM jw Z<|zVzMi Z<|z6<|adoptC_wp (off := 1) (k := 3) (T := 64) (fun _ => .head) Z<|fun ip => zp (zh (Pick.perm .t1))<|zi<|yg (γ := Nat × Nat) [2, 3, 5, 6, 19, 20, 21, 31, 32] (fun g => [(33, .int .i64 g.1)]) (fun g => [(i6, .cells 62 [.str f.blocks[k].name, .own g.2 g.1, .raw (.slice none 0 0), .int .i64 f.blocks[k].term.kind, .int .i64 f.blocks[k].term.var, .int .i64 f.blocks[k].term.to0, .int .i64 f.blocks[k].term.to1]), (g.2, .grow 3 64 ((f.blocks[k].phis.take g.1).map encPhi).flatten), (i5, .cells 62 (encBlk f.blocks[k])), (ib, .grow 7 62 ((f.blocks.take k).map encBlk).flatten), (i3, .cells 26 [.fro 2 (f.vars.map encVar), .fro 1 (f.params.map encI), .own ib k]), (i2, .cells 26 [.raw (.slice none 0 0), .raw (.slice none 0 0), .raw (.slice none 0 0)])]) (fun g => g.1 ≤ f.blocks[k].phis.length) (fun g => f.blocks[k].phis.length - g.1) (0, ip) zR1 zLe (q5 _) ?_
   rintro ⟨m, ip⟩ hm
   try dsimp only at *
   refine zSr<|zVGvlss Z Z<|z6<|zc<|y9 Z (fun cm=>?_) (fun cm=>?_)
   ·have hm2 : m < f.blocks[k].phis.length := by omega
    obtain ⟨hp1, hp2⟩ := hb3 _ (q6 hm2)
    refine zj<|zc<|zi<|zSr<|z7 (Gv.idxM jw Z8 Z Z Z (q3 (by omega)))<|zVGvloadWF isAgg64 Z8 Z Z<|zo (cs := [.int .i64 0, .raw (.slice none 0 0), .raw (.slice none 0 0)]) Y1 Z Z<|fun i8 => zg Z8 Z Z Z Z Z Z .head Z<|z6<|zw (fun j => Nat.beq j 14) (by kernel_rfl) Z (zr (.r (.r (.rest _))))<|zTk 0 Z (zf j9 Z Zq (by decide) Z Z)<|zTk 1 Z (zt (c := .own _ _) isAgg55 Z ⟨_, .t1⟩ Z)<|zTk 2 Z (zf jq Z j6 (by decide) Z Z)<|zTk 3 Z (zt (c := .int _ _) je Z ⟨_, .head⟩ Z)<|zTk 4 Z (zf jq Z ju (by decide) Z Z)<|zTk 5 Z (zt (c := .fro _ _) Z1 Z ⟨_, .head⟩ Z)<|zTk 7 Z (zf jq Z ju (by decide) Z Z)<|zTk 8 Z (zt (c := .fro _ _) Z1 Z ⟨_, .head⟩ Z)<|zOn 6 Z<|zd (cloneI_spec _ (by omega)) Z<|z6<|zOn 9 Z<|zd (cloneI_spec _ (by omega)) Z<|z6<|zTk 10 Z (yn (cps := [(0, [_]), (1, [_]), (2, [_])]) (rs := [_, _, _]) pl64 Z Z Z)<|zOn 11 Z<|yi (rows := [[_, _, _]]) ps55_1 Z Z Z Z Z<|z6<|zOn 12 Z<|yo (k := 3) jw type64 Z Z Z Z Z (fun _ => .head) (by rw [grow_len (k := 3) (fun _ => rfl), List.length_take, Nat.min_eq_left hm]) (by decide) Z (by show (_ + _) * 56 ≤ _; simp <;> omega) (by simp <;> omega)<|fun i49 => z6<|zTk 13 Z (zf j9 Z Zq (by decide) Z Z)<|y8<|zu (i := 14) Z (by kernel_rfl) (by kernel_rfl)<|yd (l := [_]) (new := [_, _, _, _, _, _, _]) Zq Z Z Z Z Z Z .t1 Z Z<|z6<|ya (by kernel_rfl)<|zRg<|zVzAd Z Z ?_
    refine zVzMi Z<|z6 ?_
    exact ⟨(m + 1, i49), ⟨rfl, rfl, rfl, rfl, rfl, rfl, rfl, rfl, rfl, trivial⟩, zR1, ⟨_, (.drop (.refl _)), by rw [← grow_push (q4 hm2)]; rfl⟩, hm2, by dsimp only; omega⟩
   ·obtain rfl : m = f.blocks[k].phis.length := by omega
    refine yf<|zc<|zSr<|z7 (zf j9 Z Zr (by decide) Z Z)<|z7 (zt (c := .fro _ _) isAgg56 Z ⟨_, .t2⟩ Z)<|zVGvlenM jx Z<|zVzMi Z<|z6<|adoptC_wp (off := 2) (k := 4) (T := 67) (fun _ => .head) Z<|fun ii => zi<|yg (γ := Nat × Nat) [2, 3, 6, 19, 20, 21, 53, 54] (fun g => [(55, .int .i64 g.1)]) (fun g => [(g.2, .grow 4 67 ((f.blocks[k].insts.take g.1).map encInst).flatten), (i6, .cells 62 [.str f.blocks[k].name, .own ip f.blocks[k].phis.length, .own g.2 g.1, .int .i64 f.blocks[k].term.kind, .int .i64 f.blocks[k].term.var, .int .i64 f.blocks[k].term.to0, .int .i64 f.blocks[k].term.to1]), (ip, .grow 3 64 (f.blocks[k].phis.map encPhi).flatten), (i5, .cells 62 (encBlk f.blocks[k])), (ib, .grow 7 62 ((f.blocks.take k).map encBlk).flatten), (i3, .cells 26 [.fro 2 (f.vars.map encVar), .fro 1 (f.params.map encI), .own ib k]), (i2, .cells 26 [.raw (.slice none 0 0), .raw (.slice none 0 0), .raw (.slice none 0 0)])]) (fun g => g.1 ≤ f.blocks[k].insts.length) (fun g => f.blocks[k].insts.length - g.1) (0, ii) zR1 ⟨_, (.refl _), by rw [q7]; rfl⟩ (q5 _) ?_
    rintro ⟨m, ii⟩ hm
    try dsimp only at *
    refine zSr<|zVGvlss Z Z<|z6<|zc<|y9 Z (fun cm=>?_) (fun cm=>?_)
    ·have hm2 : m < f.blocks[k].insts.length := by omega
     have hp1 := hb4 _ (q6 hm2)
     refine zj<|zc<|zi<|zSr<|z7 (Gv.idxM jx Z9 Z Z Z (q3 (by omega)))<|zVGvloadWF isAgg67 Z9 Z Z<|zo (cs := [.int .i64 0, .int .i64 0, .raw (.slice none 0 0), .int .i64 0]) zeroValue67 Z Z<|fun i10 => zg Z9 Z Z Z Z Z Z .head Z<|z6<|zSr<|z7 (zf j2 Z ju (by decide) Z Z)<|z7 (zt (c := .fro _ _) Z1 Z ⟨_, .head⟩ Z)<|zd (cloneI_spec _ (by omega)) Z<|z7 (zf j2 Z ju (by decide) Z Z)<|yd (l := [_]) (new := [_, _, _, _]) ju Z Z Z Z Z Z .head Z Z<|z6<|zRg<|z7 (zf j9 Z Zr (by decide) Z Z)<|z7 (zt (c := .own _ _) isAgg56 Z ⟨_, .t2⟩ Z)<|z7 (Gv.loadWC isAgg67 Z9 Z ⟨_, .head⟩ Z)<|yi (rows := [[_, _, _, _]]) ps56_1 Z Z Z Z Z<|yo (k := 4) jx type67 Z Z Z Z Z (fun _ => .t1) (by rw [grow_len (k := 4) (fun _ => rfl), List.length_take, Nat.min_eq_left hm]) (by decide) Z (by show (_ + _) * 48 ≤ _; simp <;> omega) (by simp <;> omega)<|fun i67 => z7 (zf j9 Z Zr (by decide) Z Z)<|yd (l := [_]) (new := [_, _, _, _, _, _, _]) Zr Z Z Z Z Z Z .t2 Z Z<|z6<|zRg<|zVzAd Z Z<|zVzMi Z<|z6 ?_
     exact ⟨(m + 1, i67), ⟨rfl, rfl, rfl, rfl, rfl, rfl, rfl, rfl, trivial⟩, zR1, ⟨_, (.drop (.refl _)), by rw [← grow_push (q4 hm2)]; rfl⟩, hm2, by dsimp only; omega⟩
    ·obtain rfl : m = f.blocks[k].insts.length := by omega
     rw [q7]
     refine yf<|zp (GStep.knowC (off := 1) (rows := f.blocks[k].phis.map encPhi) .t2 .t1 Z (by simp [encI, encVar, encPhi, encInst, encBlk]) (by decide) (by simp))<|zp (GStep.knowC (off := 2) (rows := f.blocks[k].insts.map encInst) .head .head Z (by simp [encI, encVar, encPhi, encInst, encBlk]) (by decide) (by simp))<|zRg<|z7 (zf jd Z Zm (by decide) Z Z)<|z7 (zt (c := .own _ _) Y4 Z ⟨_, .t3⟩ Z)<|z7 (Gv.loadWC isAgg62 Z3 Z ⟨_, .head⟩ Z)<|yi (rows := [[_, _, _, _, _, _, _]]) ps24_1 Z Z Z Z Z<|yo (k := 7) js type62 Z Z Z Z Z (fun _ => .t2) (by rw [grow_len (k := 7) (fun _ => rfl), List.length_take, Nat.min_eq_left hk]) (by decide) Z (by show (_ + _) * 96 ≤ _; simp <;> omega) (by simp <;> omega)<|fun i74 => z7 (zf jd Z Zm (by decide) Z Z)<|yd (l := [_]) (new := [_, _, _]) Zm Z Z Z Z Z Z .t3 Z Z<|z6<|zRg<|zVzAd Z Z<|zVzMi Z<|z6 ?_
     exact ⟨(k + 1, i74), zR4, zR1, ⟨_, (.drop (.drop (.refl _))), by rw [← grow_push (q4 hk2)]; rfl⟩, hk2, by dsimp only; omega⟩
  ·obtain rfl : k = f.blocks.length := by omega
   rw [q7]
   refine yf<|zSr<|z7 (Gv.loadWC jp jf Z ⟨_, .t1⟩ Z)<|zg jf Z Z Z Z Z Z .t2 Z<|z6<|ze<|afin.c1 Z ⟨_, .t2⟩ jp jf Z ?_
   exact ⟨ib, rfl, ⟨_, .keep (.drop (.drop (.refl _))), rfl⟩, trivial⟩
set_option linter.defProp false
def zm := @Pick.perm
def q2 := @AAny.two
end Go.Proofs.YtoicilchhkndmaaGreatDoor
