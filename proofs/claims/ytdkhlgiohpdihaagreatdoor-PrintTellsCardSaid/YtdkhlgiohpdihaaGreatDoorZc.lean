/- The printer's lines of instructions and ends. No conditions but bounds. -/
import Derived.Test.YtdkhlgiohpdihaaGreatDoorZb
import Derived.Shelf.Strings.Builder1
import Derived.Shelf.Strings.Builder2
import Derived.Shelf.Strings.OnBuilder
import Derived.Shelf.Strconv.Itoa0
import Derived.Shelf.Strconv.Itoa1
import Derived.Shelf.LaysM
import Derived.Shelf.Strconv.Itoa2
import Derived.Shelf.Strconv.Itoa3
import Derived.Shelf.Strconv.Itoa4
import Derived.Shelf.Strconv.ParseIntEmpty
import Derived.Shelf.Strconv.Clone
import Derived.Shelf.Strconv.SyntaxError
import Derived.Shelf.LaysC
import Derived.Shelf.Strconv.ToError
import Derived.Shelf.Strconv.Lower
import Derived.Shelf.Strconv.ParseUint10
import Derived.Shelf.Strconv.ParseUint10Empty
import Derived.Shelf.Strconv.ParseUint10Any
import Derived.Shelf.Strconv.ParseInt10
import Derived.Shelf.Strconv.RangeError
import Derived.Shelf.Strconv.ToErrorRange
import Derived.Shelf.Strconv.ParseUintEmpty
import Derived.Shelf.Strconv.ParseUint10b64
import Derived.Shelf.Strconv.ParseUint10b32
import Derived.Shelf.Strconv.ParseUint10b16
import Derived.Shelf.Strconv.ParseUint10b8
import Derived.Shelf.Strconv.ParseInt10At64
import Derived.Shelf.Strconv.ParseInt10All
import Derived.Shelf.Strconv.ParseIntPublic10
import Derived.Shelf.Strconv.ErrVarParseInt
import Derived.Shelf.Strings.Search1
import Derived.Shelf.Strings.Search2
import Derived.Shelf.Strings.Search3
import Derived.Shelf.Strings.Cut
import Derived.Shelf.Strings.Count
import Derived.Shelf.Strings.Shaped
import Derived.Shelf.Strings.Split
import Derived.Shelf.Strings.SplitShaped
import Derived.Shelf.Unicode.Props
import Derived.Shelf.Unicode.PropsLaid
import Derived.Shelf.Unicode.Decode
import Derived.Shelf.Strings.RuneCount
import Derived.Shelf.Strings.Explode
import Derived.Shelf.Unicode.DecodeSlow
import Derived.Shelf.Unicode.DecodeAny
import Derived.Shelf.Unicode.Is16White
import Derived.Shelf.Unicode.IsSpaceAny
import Derived.Shelf.Unicode.Is16WhiteD
import Derived.Shelf.Unicode.Is16Any
import Derived.Shelf.Unicode.Is32Any
import Derived.Shelf.Unicode.ExclAny
import Derived.Shelf.Unicode.PredsAny
import Derived.Shelf.Unicode.PredsPay
import Derived.Shelf.Unicode.ValidAny
import Derived.Test.YtdkhlgiohpdihaaGreatDoorChecked
import Derived.Lib.ItoaLen
set_option linter.unusedVariables false
set_option linter.unusedSimpArgs false
set_option linter.unusedSectionVars false
namespace Go.Proofs.YtdkhlgiohpdihaaGreatDoor
open Go.Proofs
theorem ps134_1 : PlacesS Tryz.prog 134 36 1 1 [.int .i64 0] := ⟨_, Tryz.underlying134, Tryz.sizeOf36, Tryz.zeroValue36, by decide, by decide, by kernel_rfl⟩
variable {E : World}
set_option maxRecDepth 20000
structure PVar where
  name : ByteArray
  ty : Int
deriving DecidableEq
structure PPhi where
  dst : Int
  args : List Int
  from_ : List Int
deriving DecidableEq
structure PInst where
  op : Int
  dst : Int
  args : List Int
  num : Int
deriving DecidableEq
structure PTerm where
  kind : Int
  var : Int
  to0 : Int
  to1 : Int
deriving DecidableEq
structure PBlock where
  name : ByteArray
  phis : List PPhi
  insts : List PInst
  term : PTerm
deriving DecidableEq
structure PFunc where
  vars : List PVar
  params : List Int
  blocks : List PBlock
deriving DecidableEq
def encI (x : Int) : List AV := [.int .i64 x]
def encVar (v : PVar) : List AV := [.str v.name, .int .i64 v.ty]
def encPhi (p : PPhi) : List AV := [.int .i64 p.dst, .fro 1 (p.args.map encI), .fro 1 (p.from_.map encI)]
def encInst (x : PInst) : List AV := [.int .i64 x.op, .int .i64 x.dst, .fro 1 (x.args.map encI), .int .i64 x.num]
def encTerm (t : PTerm) : List AV := [.int .i64 t.kind, .int .i64 t.var, .int .i64 t.to0, .int .i64 t.to1]
def encBlk (b : PBlock) : List AV := [.str b.name, .fro 3 (b.phis.map encPhi), .fro 4 (b.insts.map encInst), .int .i64 b.term.kind, .int .i64 b.term.var, .int .i64 b.term.to0, .int .i64 b.term.to1]
def encF (f : PFunc) : List AV := [.fro 2 (f.vars.map encVar), .fro 1 (f.params.map encI), .fro 7 (f.blocks.map encBlk)]
theorem takes_spec (op : Int) : AFun Tryz.prog E 72 [.int .i64 op] (.fro 1 ((takesL op).map encI)) := by
  obtain ⟨hasc, _⟩ := kRow_ascii op
  have hl : (takesL op).length = (kRow op).2.1.size := by unfold takesL; rw [List.length_map]; exact Array.length_toList
  have hlen : (takesL op).length ≤ 3 := by
    rcases kRow_mem op with h | h
    · unfold takesL; rw [h]; decide
    · have : ∀ r ∈ kindT, r.2.1.data.toList.length ≤ 3 := by decide
      have := this _ h
      unfold takesL; simpa using this
  refine ACall.intro Tryz.func72 rfl (by decide) rfl ?_
  refine AWP.seq ?_
  refine AWP.region rfl ?_
  refine AOps.val (Gv.assign (v := .raw _) rfl) ?_
  refine AOps.nil ?_
  refine AWP.seq ?_
  refine AWP.region rfl ?_
  refine AOps.val (Gv.assign (v := .raw _) rfl) ?_
  refine AOps.nil ?_
  refine adopt_wp (t := 3) (k := 1) (T := 36) rfl ?_
  intro i3
  refine AWP.seq ?_
  refine AWP.seq ?_
  refine AWP.region rfl ?_
  refine AOps.val (Gv.move (v := .int _ _) rfl) ?_
  refine AOps.callP (of_spec _) rfl ?_
  refine AOps.val (Gv.field1 (v := .str _) Tryz.underlying158 rfl Tryz.isAgg9 rfl rfl) ?_
  refine AOps.rangeT Tryz.underlying9 rfl ?_
  intro i9
  refine AOps.nil ?_
  refine AWP.block ?_
  refine AWP.loop (γ := Nat × Nat) [9] (fun g => [(3, .own g.2 g.1)]) (fun g => [(i9, .iter (kRow op).2.1 g.1), (g.2, .grow 1 36 (((takesL op).take g.1).map encI).flatten)]) (fun g => g.1 ≤ (takesL op).length) (fun g => (takesL op).length - g.1) (0, i3) ⟨rfl, trivial⟩ ⟨_, (.refl _), rfl⟩ (Nat.zero_le _) ?_
  rintro ⟨p, i⟩ hp
  try dsimp only at *
  try simp only at hp
  by_cases hlt : p < (takesL op).length
  · skip
    have hb : p < (kRow op).2.1.data.toList.length := by rw [hl] at hlt; exact hlt
    have hg : (kRow op).2.1.data[p]? = some (kRow op).2.1.data.toList[p] := by rw [Array.getElem_toList]; exact Array.getElem?_eq_getElem hb
    refine AWP.seq ?_
    refine AWP.region rfl ?_
    refine AOps.nextA rfl hg (hasc _ (List.getElem_mem hb)) .head ?_
    refine AOps.val (Gv.extract (v := .bool _) rfl rfl) ?_
    refine AOps.nil ?_
    refine AWP.seq ?_
    refine AWP.condT rfl rfl ?_
    have ht : (takesL op).take (p + 1) = (takesL op).take p ++ [typeOf ((kRow op).2.1.data.toList[p]).toNat] := by
      rw [List.take_succ_eq_append_getElem hlt]
      have : (takesL op)[p] = typeOf ((kRow op).2.1.data.toList[p]).toNat := List.getElem_map _
      rw [this]
    refine AWP.skip ?_
    refine AWP.block ?_
    refine AWP.seq ?_
    refine AWP.region rfl ?_
    refine AOps.val (Gv.extract (v := .int _ _) rfl rfl) ?_
    refine AOps.val (Gv.assign (v := .int _ _) rfl) ?_
    refine AOps.nil ?_
    refine AWP.region rfl ?_
    refine AOps.val (Gv.move (v := .own _ _) rfl) ?_
    refine AOps.val (Gv.move (v := .int _ _) rfl) ?_
    refine AOps.callP (typed_spec _) rfl ?_
    refine AOps.buildSliceFF (rows := [[_]]) ps134_1 rfl rfl rfl rfl rfl ?_
    refine AOps.appendS (k := 1) Tryz.underlying134 Tryz.type36 rfl rfl rfl rfl rfl (fun _ => (.tail .head)) (by rw [grow_len (k := 1) (fun _ => rfl), List.length_take, Nat.min_eq_left hp]) (by decide) rfl (by show (_ + _) * 8 ≤ _; simp <;> omega) (by simp <;> omega) ?_
    intro i17
    refine AOps.val (Gv.assign (v := .own _ _) rfl) ?_
    refine AOps.nil ?_
    exact ⟨(p + 1, i17), ⟨rfl, trivial⟩, ⟨rfl, trivial⟩, ⟨_, (.refl _), by rw [← grow_push ht]; rfl⟩, hlt, by simp only; omega⟩
  · skip
    refine AWP.seq ?_
    refine AWP.region rfl ?_
    refine AOps.nextTover rfl .head (by rw [← hl]; exact hlt) ?_
    refine AOps.val (Gv.extract (v := .bool _) rfl rfl) ?_
    refine AOps.nil ?_
    refine AWP.seq ?_
    refine AWP.condF rfl rfl ?_
    have hkn : p = (takesL op).length := by omega
    subst hkn
    rw [List.take_length]
    refine AWP.exit ?_
    refine AWP.seq ?_
    refine AWP.region rfl ?_
    refine AOps.val (Gv.move (v := .own _ _) rfl) ?_
    refine AOps.val (Gv.assign (v := .own _ _) rfl) ?_
    refine AOps.nil ?_
    refine AWP.ret ?_
    repeat (first | refine aseqQ_ret ?_ | refine ablockQ_ret ?_)
    refine GStep.fin (GStep.know (t := 2) (rows := (takesL op).map encI) rfl (.tail .head) (by first | (intro r hr; obtain ⟨x, _, rfl⟩ := List.mem_map.1 hr; rfl) | simp [encI, encVar, encPhi, encInst, encBlk]) (by decide) (by simp)) ?_
    refine afin.t1 (x := .fro _ _) rfl ?_
    rfl
theorem makes_spec (op : Int) : AFun Tryz.prog E 71 [.int .i64 op] (.tup [.int .i64 (makesT op), .bool (makesB op)]) := by
  obtain ⟨_, hasc⟩ := kRow_ascii op
  refine ACall.intro Tryz.func71 rfl (by decide) rfl ?_
  refine AWP.seq ?_
  refine AWP.region rfl ?_
  refine AOps.val (Gv.assign (v := .int _ _) rfl) ?_
  refine AOps.val (Gv.assign (v := .bool _) rfl) ?_
  refine AOps.nil ?_
  refine AWP.seq ?_
  refine AWP.seq ?_
  refine AWP.region rfl ?_
  refine AOps.val (Gv.move (v := .int _ _) rfl) ?_
  refine AOps.callP (of_spec _) rfl ?_
  refine AOps.val (Gv.field1 (v := .str _) Tryz.underlying158 rfl Tryz.isAgg9 rfl rfl) ?_
  refine AOps.rangeT Tryz.underlying9 rfl ?_
  intro i9
  refine AOps.nil ?_
  refine AWP.block ?_
  refine AWP.loop (γ := Unit) [9] (fun g => []) (fun g => [(i9, .iter (kRow op).2.2 0)]) (fun g => True) (fun g => 0) () trivial ⟨_, (.refl _), rfl⟩ (trivial) ?_
  rintro _ _
  by_cases hlt : ∃ c0 tl, (kRow op).2.2.data.toList = c0 :: tl
  · skip
    obtain ⟨c0, tl, hk⟩ := hlt
    have hg : (kRow op).2.2.data[0]? = some c0 := by rw [← Array.getElem?_toList, hk]; rfl
    refine AWP.seq ?_
    refine AWP.region rfl ?_
    refine AOps.nextA rfl hg (hasc _ (by rw [hk]; exact .head _)) .head ?_
    refine AOps.val (Gv.extract (v := .bool _) rfl rfl) ?_
    refine AOps.nil ?_
    refine AWP.seq ?_
    refine AWP.condT rfl rfl ?_
    refine AWP.skip ?_
    refine AWP.block ?_
    refine AWP.seq ?_
    refine AWP.region rfl ?_
    refine AOps.val (Gv.extract (v := .int _ _) rfl rfl) ?_
    refine AOps.val (Gv.assign (v := .int _ _) rfl) ?_
    refine AOps.nil ?_
    refine AWP.seq ?_
    refine AWP.region rfl ?_
    refine AOps.val (Gv.move (v := .int _ _) rfl) ?_
    refine AOps.callP (typed_spec _) rfl ?_
    refine AOps.val (Gv.assign (v := .int _ _) rfl) ?_
    refine AOps.val (Gv.assign (v := .bool _) rfl) ?_
    refine AOps.nil ?_
    refine AWP.ret ?_
    repeat (first | refine aseqQ_ret ?_ | refine ablockQ_ret ?_)
    refine afin.t2 (x := .int _ _) (y := .bool _) rfl rfl ?_
    unfold makesT makesB; rw [hk]; rfl
  · skip
    have hk : (kRow op).2.2.data.toList = [] := by
      cases h : (kRow op).2.2.data.toList with
      | nil => rfl
      | cons x l => exact absurd ⟨x, l, h⟩ hlt
    refine AWP.seq ?_
    refine AWP.region rfl ?_
    refine AOps.nextTover rfl .head (by show ¬ 0 < (kRow op).2.2.data.size; rw [← Array.length_toList, hk]; decide) ?_
    refine AOps.val (Gv.extract (v := .bool _) rfl rfl) ?_
    refine AOps.nil ?_
    refine AWP.seq ?_
    refine AWP.condF rfl rfl ?_
    refine AWP.exit ?_
    refine AWP.seq ?_
    refine AWP.region rfl ?_
    refine AOps.val (Gv.assign (v := .int _ _) rfl) ?_
    refine AOps.val (Gv.assign (v := .bool _) rfl) ?_
    refine AOps.nil ?_
    refine AWP.ret ?_
    repeat (first | refine aseqQ_ret ?_ | refine ablockQ_ret ?_)
    refine afin.t2 (x := .int _ _) (y := .bool _) rfl rfl ?_
    unfold makesT makesB; rw [hk]; rfl
def hasV (f : PFunc) (v : Int) : Bool := decide (0 ≤ v) && decide (v < f.vars.length)
def hasB (f : PFunc) (b : Int) : Bool := decide (0 ≤ b) && decide (b < f.blocks.length)
theorem has_spec (f : PFunc) (v : Int) : AFun Tryz.prog E 65 [.agg (encF f), .int .i64 v] (.bool (hasV f v)) := by
  refine ACall.intro Tryz.func65 rfl (by decide) rfl ?_
  refine AWP.seq ?_
  refine AWP.region rfl ?_
  refine AOps.boxF (cs := _) rfl rfl rfl ?_
  refine AOps.val (Gv.assign (v := .bool _) rfl) ?_
  refine AOps.nil ?_
  refine AWP.seq ?_
  refine AWP.region rfl ?_
  refine AOps.val (Gv.move (v := .int _ _) rfl) ?_
  refine AOps.val (Gv.geq rfl rfl) ?_
  refine AOps.val (Gv.move (v := .bool _) rfl) ?_
  refine AOps.case (s := 7) rfl (fun c1 => ?_) (fun c1 => ?_)
  · skip
    refine AOps.guardT rfl rfl c1 ?_
    refine AOps.val (Gv.move (v := .int _ _) rfl) ?_
    refine AOps.guardT rfl rfl c1 ?_
    refine AOps.val (Gv.fieldF Tryz.underlying27 rfl Tryz.sizeOf23 (by decide) rfl rfl) ?_
    refine AOps.guardT rfl rfl c1 ?_
    refine AOps.val (Gv.load1F (c := .fro _ _) Tryz.isAgg23 rfl) ?_
    refine AOps.guardT rfl rfl c1 ?_
    refine AOps.val (Gv.lenM Tryz.underlying23 rfl) ?_
    refine AOps.guardT rfl rfl c1 ?_
    refine AOps.val (Gv.lss rfl rfl) ?_
    refine AOps.val (Gv.pickT (v := .bool _) rfl c1 rfl) ?_
    refine AOps.val (Gv.assign (v := .bool _) rfl) ?_
    refine AOps.nil ?_
    refine AWP.ret ?_
    repeat (first | refine aseqQ_ret ?_ | refine ablockQ_ret ?_)
    refine afin.t1 (x := .bool _) rfl ?_
    simp_all [hasV] <;> omega
  · skip
    refine AOps.guardFd rfl rfl c1 ?_
    refine AOps.guardFd rfl rfl c1 ?_
    refine AOps.guardFd rfl rfl c1 ?_
    refine AOps.guardFd rfl rfl c1 ?_
    refine AOps.guardFd rfl rfl c1 ?_
    refine AOps.val (Gv.pickF (v := .bool _) rfl c1 rfl) ?_
    refine AOps.val (Gv.assign (v := .bool _) rfl) ?_
    refine AOps.nil ?_
    refine AWP.ret ?_
    repeat (first | refine aseqQ_ret ?_ | refine ablockQ_ret ?_)
    refine afin.t1 (x := .bool _) rfl ?_
    simp_all [hasV] <;> omega
theorem at_spec (f : PFunc) (v : Int) : AFun Tryz.prog E 69 [.agg (encF f), .int .i64 v] (.bool (hasB f v)) := by
  refine ACall.intro Tryz.func69 rfl (by decide) rfl ?_
  refine AWP.seq ?_
  refine AWP.region rfl ?_
  refine AOps.boxF (cs := _) rfl rfl rfl ?_
  refine AOps.val (Gv.assign (v := .bool _) rfl) ?_
  refine AOps.nil ?_
  refine AWP.seq ?_
  refine AWP.region rfl ?_
  refine AOps.val (Gv.move (v := .int _ _) rfl) ?_
  refine AOps.val (Gv.geq rfl rfl) ?_
  refine AOps.val (Gv.move (v := .bool _) rfl) ?_
  refine AOps.case (s := 7) rfl (fun c2 => ?_) (fun c2 => ?_)
  · skip
    refine AOps.guardT rfl rfl c2 ?_
    refine AOps.val (Gv.move (v := .int _ _) rfl) ?_
    refine AOps.guardT rfl rfl c2 ?_
    refine AOps.val (Gv.fieldF Tryz.underlying27 rfl Tryz.sizeOf25 (by decide) rfl rfl) ?_
    refine AOps.guardT rfl rfl c2 ?_
    refine AOps.val (Gv.load1F (c := .fro _ _) Tryz.isAgg25 rfl) ?_
    refine AOps.guardT rfl rfl c2 ?_
    refine AOps.val (Gv.lenM Tryz.underlying25 rfl) ?_
    refine AOps.guardT rfl rfl c2 ?_
    refine AOps.val (Gv.lss rfl rfl) ?_
    refine AOps.val (Gv.pickT (v := .bool _) rfl c2 rfl) ?_
    refine AOps.val (Gv.assign (v := .bool _) rfl) ?_
    refine AOps.nil ?_
    refine AWP.ret ?_
    repeat (first | refine aseqQ_ret ?_ | refine ablockQ_ret ?_)
    refine afin.t1 (x := .bool _) rfl ?_
    simp_all [hasB] <;> omega
  · skip
    refine AOps.guardFd rfl rfl c2 ?_
    refine AOps.guardFd rfl rfl c2 ?_
    refine AOps.guardFd rfl rfl c2 ?_
    refine AOps.guardFd rfl rfl c2 ?_
    refine AOps.guardFd rfl rfl c2 ?_
    refine AOps.val (Gv.pickF (v := .bool _) rfl c2 rfl) ?_
    refine AOps.val (Gv.assign (v := .bool _) rfl) ?_
    refine AOps.nil ?_
    refine AWP.ret ?_
    repeat (first | refine aseqQ_ret ?_ | refine ablockQ_ret ?_)
    refine afin.t1 (x := .bool _) rfl ?_
    simp_all [hasB] <;> omega
def firstI {α : Type} (p : α → Bool) : List α → Nat → Int
  | [], _ => -1
  | x :: xs, k => if p x then k else firstI p xs (k + 1)
theorem firstI_ge {α : Type} (p : α → Bool) : ∀ (xs : List α) (k : Nat), decide (0 ≤ firstI p xs k) = xs.any p
  | [], k => rfl
  | x :: xs, k => by
    unfold firstI
    rw [List.any_cons]
    split
    · rename_i h; rw [h]; simp
    · rename_i h; simp [h, firstI_ge p xs (k + 1)]
theorem firstI_drop {α : Type} (p : α → Bool) : ∀ (xs : List α) (k : Nat), k ≤ xs.length → (xs.take k).all (fun x => !p x) = true → firstI p xs 0 = firstI p (xs.drop k) k
  | _, 0, _, _ => rfl
  | xs, k + 1, h, hall => by
    rw [List.take_succ_eq_append_getElem (by omega), List.all_append] at hall
    simp only [Bool.and_eq_true, List.all_cons, List.all_nil, Bool.and_true] at hall
    rw [firstI_drop p xs k (by omega) hall.1, List.drop_eq_getElem_cons (by omega)]
    rw [firstI]
    rw [if_neg (by simpa using hall.2)]
theorem indexFuncI_spec {p : Int → Bool} {fn : FuncId} {c : List AV} (xs : List Int) (hl : xs.length ≤ 281474976710656) (hp : ∀ x, AFun Tryz.prog E fn ([.int .i64 x] ++ c) (.bool (p x))) :
    AFun Tryz.prog E 91 [.fro 1 (xs.map encI), .fn fn [] c] (.int .i64 (firstI p xs 0)) := by
  refine ACall.intro Tryz.func91 rfl (by decide) rfl ?_
  refine AWP.seq ?_
  refine AWP.region rfl ?_
  refine AOps.val (Gv.assign (v := .int _ _) rfl) ?_
  refine AOps.nil ?_
  refine AWP.seq ?_
  refine AWP.seq ?_
  refine AWP.region rfl ?_
  refine AOps.val (Gv.move (v := .fro _ _) rfl) ?_
  refine AOps.val (Gv.lenM Tryz.underlying24 rfl) ?_
  refine AOps.val (Gv.move (v := .int _ _) rfl) ?_
  refine AOps.nil ?_
  refine AWP.block ?_
  refine AWP.loop (γ := Nat) [0, 1, 7] (fun k => [(8, .int .i64 k)]) (fun k => []) (fun k => k ≤ xs.length ∧ (xs.take k).all (fun x => !p x)) (fun k => xs.length - k) 0 ⟨rfl, trivial⟩ ⟨_, (.refl _), rfl⟩ (⟨Nat.zero_le _, rfl⟩) ?_
  rintro k ⟨hk, hall⟩
  refine AWP.seq ?_
  refine AWP.region rfl ?_
  refine AOps.val (Gv.lss rfl rfl) ?_
  refine AOps.nil ?_
  refine AWP.seq ?_
  refine AWP.condP rfl (fun ck => ?_) (fun ck => ?_)
  · skip
    have hk2 : k < xs.length := by omega
    refine AWP.skip ?_
    refine AWP.seq ?_
    refine AWP.block ?_
    refine AWP.seq ?_
    refine AWP.region rfl ?_
    refine AOps.val (Gv.move (v := .int _ _) rfl) ?_
    refine AOps.val (Gv.assign (v := .int _ _) rfl) ?_
    refine AOps.nil ?_
    refine AWP.seq ?_
    refine AWP.region rfl ?_
    refine AOps.val (Gv.move (v := .fn _ _ _) rfl) ?_
    refine AOps.val (Gv.move (v := .fro _ _) rfl) ?_
    refine AOps.val (Gv.move (v := .int _ _) rfl) ?_
    refine AOps.val (Gv.idxM Tryz.underlying24 Tryz.sizeOf3 rfl rfl rfl (List.getElem?_eq_getElem (by omega))) ?_
    refine AOps.val (Gv.load1F (c := .int _ _) Tryz.isAgg3 rfl) ?_
    refine AOps.callVP rfl (hp _) rfl ?_
    refine AOps.nil ?_
    refine AWP.cond rfl (fun cp => ?_) (fun cp => ?_)
    · skip
      refine AWP.seq ?_
      refine AWP.region rfl ?_
      refine AOps.val (Gv.move (v := .int _ _) rfl) ?_
      refine AOps.val (Gv.assign (v := .int _ _) rfl) ?_
      refine AOps.nil ?_
      refine AWP.ret ?_
      repeat (first | refine aseqQ_ret ?_ | refine ablockQ_ret ?_)
      refine afin.t1 (x := .int _ _) rfl ?_
      rw [firstI_drop p xs k hk hall, List.drop_eq_getElem_cons hk2, firstI, if_pos cp]
    · skip
      refine AWP.skip ?_
      refine AWP.region rfl ?_
      refine AOps.val (Gv.add rfl rfl (by unfold I64; omega)) ?_
      refine AOps.val (Gv.move (v := .int _ _) rfl) ?_
      refine AOps.nil ?_
      exact ⟨k + 1, ⟨rfl, rfl, rfl, trivial⟩, ⟨rfl, trivial⟩, ⟨_, (.refl _), rfl⟩, ⟨hk2, by rw [List.take_succ_eq_append_getElem hk2, List.all_append, hall]; simp [cp]⟩, by omega⟩
  · skip
    have hkn : k = xs.length := by omega
    refine AWP.exit ?_
    refine AWP.seq ?_
    refine AWP.region rfl ?_
    refine AOps.val (Gv.assign (v := .int _ _) rfl) ?_
    refine AOps.nil ?_
    refine AWP.ret ?_
    repeat (first | refine aseqQ_ret ?_ | refine ablockQ_ret ?_)
    refine afin.t1 (x := .int _ _) rfl ?_
    rw [firstI_drop p xs k hk hall, hkn, List.drop_length, firstI]
theorem containsFuncI_spec {p : Int → Bool} {fn : FuncId} {c : List AV} (xs : List Int) (hl : xs.length ≤ 281474976710656) (hp : ∀ x, AFun Tryz.prog E fn ([.int .i64 x] ++ c) (.bool (p x))) :
    AFun Tryz.prog E 67 [.fro 1 (xs.map encI), .fn fn [] c] (.bool (xs.any p)) := by
  refine ACall.intro Tryz.func67 rfl (by decide) rfl ?_
  refine AWP.seq ?_
  refine AWP.region rfl ?_
  refine AOps.val (Gv.assign (v := .bool _) rfl) ?_
  refine AOps.nil ?_
  refine AWP.seq ?_
  refine AWP.region rfl ?_
  refine AOps.val (Gv.move (v := .fro _ _) rfl) ?_
  refine AOps.val (Gv.move (v := .fn _ _ _) rfl) ?_
  refine AOps.callP (indexFuncI_spec xs hl hp) rfl ?_
  refine AOps.val (Gv.geq rfl rfl) ?_
  refine AOps.val (Gv.assign (v := .bool _) rfl) ?_
  refine AOps.nil ?_
  refine AWP.ret ?_
  repeat (first | refine aseqQ_ret ?_ | refine ablockQ_ret ?_)
  refine afin.t1 (x := .bool _) rfl ?_
  rw [firstI_ge]
theorem vars1_spec (f : PFunc) (v : Int) : AFun Tryz.prog E 90 ([.int .i64 v] ++ [.pf (encF f)]) (.bool (!hasV f v)) := by
  refine ACall.intro Tryz.func90 rfl (by decide) rfl ?_
  refine AWP.seq ?_
  refine AWP.region rfl ?_
  refine AOps.val (Gv.assign (v := .bool _) rfl) ?_
  refine AOps.nil ?_
  refine AWP.seq ?_
  refine AWP.region rfl ?_
  refine AOps.val (Gv.loadWF Tryz.isAgg27 Tryz.sizeOf27 rfl rfl) ?_
  refine AOps.val (Gv.move (v := .int _ _) rfl) ?_
  refine AOps.callP (has_spec _ _) rfl ?_
  refine AOps.val (Gv.not rfl) ?_
  refine AOps.val (Gv.assign (v := .bool _) rfl) ?_
  refine AOps.nil ?_
  refine AWP.ret ?_
  repeat (first | refine aseqQ_ret ?_ | refine ablockQ_ret ?_)
  refine afin.t1 (x := .bool _) rfl ?_
  rfl
theorem vars_spec (f : PFunc) (l : List Int) (hl : l.length ≤ 281474976710656) : AFun Tryz.prog E 66 [.agg (encF f), .fro 1 (l.map encI)] (.bool (l.all (hasV f))) := by
  refine ACall.intro Tryz.func66 rfl (by decide) rfl ?_
  refine AWP.seq ?_
  refine AWP.region rfl ?_
  refine AOps.boxF (cs := _) rfl rfl rfl ?_
  refine AOps.val (Gv.assign (v := .bool _) rfl) ?_
  refine AOps.nil ?_
  refine AWP.seq ?_
  refine AWP.region rfl ?_
  refine AOps.val (Gv.move (v := .fro _ _) rfl) ?_
  refine AOps.val (Gv.func rfl rfl) ?_
  refine AOps.callP (containsFuncI_spec l hl (vars1_spec f)) rfl ?_
  refine AOps.val (Gv.not rfl) ?_
  refine AOps.val (Gv.assign (v := .bool _) rfl) ?_
  refine AOps.nil ?_
  refine AWP.ret ?_
  repeat (first | refine aseqQ_ret ?_ | refine ablockQ_ret ?_)
  refine afin.t1 (x := .bool _) rfl ?_
  rw [List.any_eq_not_all_not]; simp
end Go.Proofs.YtdkhlgiohpdihaaGreatDoor
namespace Go.Proofs.YtdkhlgiohpdihaaGreatDoor
open Go.Proofs
variable {E : World}
set_option maxRecDepth 20000
def okL {α : Type} (l : List α) : Prop := l.length ≤ 140737488355328
def okPhi (p : PPhi) : Prop := okL p.args ∧ okL p.from_
def okBlk (b : PBlock) : Prop := okL b.phis ∧ okL b.insts ∧ (∀ p ∈ b.phis, okPhi p) ∧ (∀ x ∈ b.insts, okL x.args)
def okFunc (f : PFunc) : Prop := okL f.vars ∧ okL f.params ∧ okL f.blocks ∧ ∀ b ∈ f.blocks, okBlk b
theorem okL.lt {α : Type} {l : List α} (h : okL l) : l.length ≤ 140737488355328 := h
theorem jb {x y : Bool} (h : x = y) : AV.bool x = AV.bool y := congrArg AV.bool h
theorem eq_var (a c : ByteArray) (b d : Int) (w : World) : (Op.equalIn 10000 38 (.agg [.string a, .int .i64 b].toArray) (.agg [.string c, .int .i64 d].toArray)).run Tryz.prog w = .ok (decide (a = c ∧ b = d)) w := by
  have hS : Tryz.prog.underlying 38 = some (.struct (Tryz.prog.fieldsOf 38)) := by kernel_rfl
  have hp : Tryz.prog.stoodInHeld 38 = false := by kernel_rfl
  rw [show (10000 : Nat) = 9999 + 1 from rfl, run_equalIn_agg w 9999 _ _ _ hS hp]
  simp only [Program.fieldsOf, Tryz.underlying38]
  simp [Op.eqFields, part, Tryz.isAgg9, Tryz.isAgg36, run_equalIn_string, run_equalIn_int, Tryz.underlying9, Tryz.underlying36]
  have e := bytes_eq a c
  by_cases h1 : a = c
  · subst h1; by_cases h2 : b = d <;> simp [h2]
  · have h3 : ¬ a.toList = c.toList := by simpa [h1] using e
    simp [h1, h3]
theorem eq_arr (a b c d : Int) (w : World) (m : Nat) : (Op.equalIn (m + 2) 44 (.agg [.int .i64 a, .int .i64 b].toArray) (.agg [.int .i64 c, .int .i64 d].toArray)).run Tryz.prog w = .ok (decide (a = c ∧ b = d)) w := by
  rw [Op.equalIn]
  simp only [Sem.run_bind, run_underlying Tryz.underlying44, Result.andThen_ok]
  simp only [Std.Legacy.Range.forIn_eq_forIn_range', Std.Legacy.Range.size, Nat.sub_zero, Nat.add_sub_cancel, Nat.div_one, List.range'_succ, List.range'_zero, List.forIn_cons, List.forIn_nil]
  simp [part, Tryz.isAgg3, Tryz.sizeOf3, run_equalIn_int, Tryz.underlying3]
  by_cases h1 : a = c <;> by_cases h2 : b = d <;> simp [h1, h2]
theorem eq_term (k v t0 t1 k' v' t0' t1' : Int) (w : World) : (Op.equalIn 10000 46 (.agg [.int .i64 k, .int .i64 v, .int .i64 t0, .int .i64 t1].toArray) (.agg [.int .i64 k', .int .i64 v', .int .i64 t0', .int .i64 t1'].toArray)).run Tryz.prog w = .ok (decide (k = k' ∧ v = v' ∧ t0 = t0' ∧ t1 = t1')) w := by
  have hS : Tryz.prog.underlying 46 = some (.struct (Tryz.prog.fieldsOf 46)) := by kernel_rfl
  have hp : Tryz.prog.stoodInHeld 46 = false := by kernel_rfl
  rw [show (10000 : Nat) = 9999 + 1 from rfl, run_equalIn_agg w 9999 _ _ _ hS hp]
  simp only [Program.fieldsOf, Tryz.underlying46]
  have ha : (Op.equalIn 9999 44 (.agg #[.int .i64 t0, .int .i64 t1]) (.agg #[.int .i64 t0', .int .i64 t1'])).run Tryz.prog w = .ok (decide (t0 = t0' ∧ t1 = t1')) w := eq_arr t0 t1 t0' t1' w 9997
  simp [Op.eqFields, part, Tryz.isAgg3, Tryz.isAgg43, Tryz.isAgg44, Tryz.sizeOf44, run_equalIn_int, Tryz.underlying3, Tryz.underlying43, ha]
  by_cases h1 : k = k' <;> by_cases h2 : v = v' <;> by_cases h3 : t0 = t0' <;> by_cases h4 : t1 = t1' <;> simp [h1, h2, h3, h4]
theorem phi_iff (x y : PPhi) : decide (x = y) = (decide (x.dst = y.dst) && decide (x.args = y.args) && decide (x.from_ = y.from_)) := by
  cases x; cases y; simp [Bool.and_assoc]
theorem inst_iff (x y : PInst) : decide (x = y) = (decide (x.op = y.op) && decide (x.dst = y.dst) && decide (x.num = y.num) && decide (x.args = y.args)) := by
  cases x; cases y; apply Bool.eq_iff_iff.2; simp; constructor <;> (intro h; simp_all)
theorem var_ext {x y : PVar} (h : x.name = y.name ∧ x.ty = y.ty) : x = y := by
  cases x; cases y; simp_all
theorem ints_spec (xs ys : List Int) (hl : okL xs) : AFun Tryz.prog E 23 [.fro 1 (xs.map encI), .fro 1 (ys.map encI)] (.bool (decide (xs = ys))) := by
  have hl := hl.lt
  refine ACall.intro Tryz.func23 rfl (by decide) rfl ?_
  refine AWP.seq ?_
  refine AWP.region rfl ?_
  refine AOps.val (Gv.assign (v := .bool _) rfl) ?_
  refine AOps.nil ?_
  refine AWP.seq ?_
  refine AWP.seq ?_
  refine AWP.region rfl ?_
  refine AOps.val (Gv.move (v := .fro _ _) rfl) ?_
  refine AOps.val (Gv.lenM Tryz.underlying24 rfl) ?_
  refine AOps.val (Gv.move (v := .fro _ _) rfl) ?_
  refine AOps.val (Gv.lenM Tryz.underlying24 rfl) ?_
  refine AOps.val (Gv.neqI rfl rfl) ?_
  refine AOps.nil ?_
  refine AWP.cond rfl (fun c0 => ?_) (fun c0 => ?_)
  · skip
    have h : ¬ xs = ys := fun e => by subst e; simp at c0
    refine AWP.seq ?_
    refine AWP.region rfl ?_
    refine AOps.val (Gv.assign (v := .bool _) rfl) ?_
    refine AOps.nil ?_
    refine AWP.ret ?_
    repeat (first | refine aseqQ_ret ?_ | refine ablockQ_ret ?_)
    refine afin.t1 (x := .bool _) rfl ?_
    rw [decide_eq_false h]
  · skip
    have hl2 : xs.length = ys.length := by simp at c0; omega
    refine AWP.skip ?_
    refine AWP.seq ?_
    refine AWP.seq ?_
    refine AWP.region rfl ?_
    refine AOps.val (Gv.move (v := .fro _ _) rfl) ?_
    refine AOps.val (Gv.lenM Tryz.underlying24 rfl) ?_
    refine AOps.val (Gv.move (v := .int _ _) rfl) ?_
    refine AOps.nil ?_
    refine AWP.block ?_
    refine AWP.loop (γ := Nat) [0, 1, 12] (fun k => [(13, .int .i64 k)]) (fun k => []) (fun k => k ≤ xs.length ∧ xs.take k = ys.take k) (fun k => xs.length - k) 0 ⟨rfl, trivial⟩ ⟨_, (.refl _), rfl⟩ (⟨Nat.zero_le _, rfl⟩) ?_
    rintro k ⟨hk, he⟩
    refine AWP.seq ?_
    refine AWP.region rfl ?_
    refine AOps.val (Gv.lss rfl rfl) ?_
    refine AOps.nil ?_
    refine AWP.seq ?_
    refine AWP.condP rfl (fun ck => ?_) (fun ck => ?_)
    · skip
      have hk2 : k < xs.length := by omega
      have hk3 : k < ys.length := by omega
      refine AWP.skip ?_
      refine AWP.seq ?_
      refine AWP.block ?_
      refine AWP.seq ?_
      refine AWP.region rfl ?_
      refine AOps.val (Gv.move (v := .int _ _) rfl) ?_
      refine AOps.val (Gv.assign (v := .int _ _) rfl) ?_
      refine AOps.nil ?_
      refine AWP.seq ?_
      refine AWP.regionDraw (fun j => false) (by kernel_rfl) rfl (Part.perm (.rest _)) ?_
      refine AAny.take (i := 0) rfl (by kernel_rfl) (by kernel_rfl) (by kernel_rfl) (by kernel_rfl) (by kernel_rfl) (by kernel_rfl) (Gv.move (v := .fro _ _) rfl) ?_
      refine AAny.take (i := 1) rfl (by kernel_rfl) (by kernel_rfl) (by kernel_rfl) (by kernel_rfl) (by kernel_rfl) (by kernel_rfl) (Gv.move (v := .int _ _) rfl) ?_
      refine AAny.take (i := 2) rfl (by kernel_rfl) (by kernel_rfl) (by kernel_rfl) (by kernel_rfl) (by kernel_rfl) (by kernel_rfl) (Gv.idxM Tryz.underlying24 Tryz.sizeOf3 rfl rfl rfl (List.getElem?_eq_getElem (by omega))) ?_
      refine AAny.take (i := 3) rfl (by kernel_rfl) (by kernel_rfl) (by kernel_rfl) (by kernel_rfl) (by kernel_rfl) (by kernel_rfl) (Gv.load1F (c := .int _ _) Tryz.isAgg3 rfl) ?_
      refine AAny.take (i := 4) rfl (by kernel_rfl) (by kernel_rfl) (by kernel_rfl) (by kernel_rfl) (by kernel_rfl) (by kernel_rfl) (Gv.move (v := .fro _ _) rfl) ?_
      refine AAny.take (i := 5) rfl (by kernel_rfl) (by kernel_rfl) (by kernel_rfl) (by kernel_rfl) (by kernel_rfl) (by kernel_rfl) (Gv.move (v := .int _ _) rfl) ?_
      refine AAny.take (i := 6) rfl (by kernel_rfl) (by kernel_rfl) (by kernel_rfl) (by kernel_rfl) (by kernel_rfl) (by kernel_rfl) (Gv.idxM Tryz.underlying24 Tryz.sizeOf3 rfl rfl rfl (List.getElem?_eq_getElem (by omega))) ?_
      refine AAny.take (i := 7) rfl (by kernel_rfl) (by kernel_rfl) (by kernel_rfl) (by kernel_rfl) (by kernel_rfl) (by kernel_rfl) (Gv.load1F (c := .int _ _) Tryz.isAgg3 rfl) ?_
      refine AAny.take (i := 8) rfl (by kernel_rfl) (by kernel_rfl) (by kernel_rfl) (by kernel_rfl) (by kernel_rfl) (by kernel_rfl) (Gv.neqI rfl rfl) ?_
      refine AAny.done (by kernel_rfl) ?_
      refine AWP.cond rfl (fun cd => ?_) (fun cd => ?_)
      · skip
        refine AWP.seq ?_
        refine AWP.region rfl ?_
        refine AOps.val (Gv.assign (v := .bool _) rfl) ?_
        refine AOps.nil ?_
        refine AWP.ret ?_
        repeat (first | refine aseqQ_ret ?_ | refine ablockQ_ret ?_)
        refine afin.t1 (x := .bool _) rfl ?_
        rw [decide_eq_false (ne_at hk2 hk3 (by simpa using cd))]
      · skip
        refine AWP.skip ?_
        refine AWP.region rfl ?_
        refine AOps.val (Gv.add rfl rfl (by unfold I64; omega)) ?_
        refine AOps.val (Gv.move (v := .int _ _) rfl) ?_
        refine AOps.nil ?_
        exact ⟨k + 1, ⟨rfl, rfl, rfl, trivial⟩, ⟨rfl, trivial⟩, ⟨_, (.refl _), rfl⟩, ⟨hk2, take_push hk2 hk3 he (by simpa using cd)⟩, by omega⟩
    · skip
      refine AWP.exit ?_
      refine AWP.seq ?_
      refine AWP.region rfl ?_
      refine AOps.val (Gv.assign (v := .bool _) rfl) ?_
      refine AOps.nil ?_
      refine AWP.ret ?_
      repeat (first | refine aseqQ_ret ?_ | refine ablockQ_ret ?_)
      refine afin.t1 (x := .bool _) rfl ?_
      rw [decide_eq_true (take_done hl2 (by omega) he)]
end Go.Proofs.YtdkhlgiohpdihaaGreatDoor
namespace Go.Proofs
open Go.Shelf
def Tryz.lays169_ren : Go.Shelf.Ren := ⟨fun | 169 => 36 | n => n, fun | 70 => 74 | 9 => 9 | 0 => 0 | 72 => 77 | 37 => 75 | 127 => 125 | 3 => 3 | 5 => 5 | n => n, fun | n => n⟩
theorem Tryz.lays169 : Go.Proofs.Lays.n169 Tryz.prog Tryz.lays169_ren := {
  mixed := by kernel_rfl
  f169 := Tryz.func36.trans (congrArg some (by kernel_rfl))
  t0 := Tryz.underlying0
  a0 := Tryz.isAgg0
  z0 := Tryz.sizeOf0
  v0 := Tryz.zeroValue0
  t3 := Tryz.underlying3
  a3 := Tryz.isAgg3
  z3 := Tryz.sizeOf3
  v3 := Tryz.zeroValue3
  t9 := Tryz.underlying9
  a9 := Tryz.isAgg9
  z9 := Tryz.sizeOf9
  v9 := Tryz.zeroValue9
  t37 := Tryz.underlying75
  a37 := Tryz.isAgg75
  z37 := Tryz.sizeOf75
  v37 := Tryz.zeroValue75
  t70 := Tryz.underlying74
  a70 := Tryz.isAgg74
  z70 := Tryz.sizeOf74
  v70 := Tryz.zeroValue74
  t72 := Tryz.underlying77
  a72 := Tryz.isAgg77
  z72 := Tryz.sizeOf77
  v72 := Tryz.zeroValue77
  t127 := Tryz.underlying125
  a127 := Tryz.isAgg125
  z127 := Tryz.sizeOf125
  v127 := Tryz.zeroValue125 }
theorem Tryz.Builder_Extra_169 : Builder.Extra Tryz.prog Tryz.lays169_ren := {
  sizeBuilder := by kernel_rfl
  liesBuilder := by kernel_rfl
  t5 := Tryz.underlying5
  a5 := Tryz.isAgg5
  z5 := Tryz.sizeOf5
  v5 := Tryz.zeroValue5
  infoByte := by kernel_rfl
  cellsByte := by kernel_rfl
  sizeByte := by kernel_rfl
  neB5 := by decide }
def Tryz.lays156_ren : Go.Shelf.Ren := ⟨fun | 156 => 31 | 165 => 61 | 166 => 30 | 169 => 36 | 240 => 60 | 241 => 89 | 276 => 88 | 277 => 111 | n => n, fun | 31 => 62 | 9 => 9 | 3 => 3 | 4 => 4 | 0 => 0 | 20 => 20 | 72 => 77 | 76 => 80 | 70 => 74 | 37 => 75 | 75 => 79 | 127 => 125 | 164 => 160 | 5 => 5 | 80 => 88 | n => n, fun | n => n⟩
theorem Tryz.lays156 : Go.Proofs.Lays.n156 Tryz.prog Tryz.lays156_ren := {
  mixed := by kernel_rfl
  f156 := Tryz.func31.trans (congrArg some (by kernel_rfl))
  f165 := Tryz.func61.trans (congrArg some (by kernel_rfl))
  f166 := Tryz.func30.trans (congrArg some (by kernel_rfl))
  f169 := Tryz.func36.trans (congrArg some (by kernel_rfl))
  f240 := Tryz.func60.trans (congrArg some (by kernel_rfl))
  f241 := Tryz.func89.trans (congrArg some (by kernel_rfl))
  f276 := Tryz.func88.trans (congrArg some (by kernel_rfl))
  f277 := Tryz.func111.trans (congrArg some (by kernel_rfl))
  t0 := Tryz.underlying0
  a0 := Tryz.isAgg0
  z0 := Tryz.sizeOf0
  v0 := Tryz.zeroValue0
  t3 := Tryz.underlying3
  a3 := Tryz.isAgg3
  z3 := Tryz.sizeOf3
  v3 := Tryz.zeroValue3
  t4 := Tryz.underlying4
  a4 := Tryz.isAgg4
  z4 := Tryz.sizeOf4
  v4 := Tryz.zeroValue4
  t9 := Tryz.underlying9
  a9 := Tryz.isAgg9
  z9 := Tryz.sizeOf9
  v9 := Tryz.zeroValue9
  t20 := Tryz.underlying20
  a20 := Tryz.isAgg20
  z20 := Tryz.sizeOf20
  v20 := Tryz.zeroValue20
  t31 := Tryz.underlying62
  a31 := Tryz.isAgg62
  z31 := Tryz.sizeOf62
  v31 := Tryz.zeroValue62
  t37 := Tryz.underlying75
  a37 := Tryz.isAgg75
  z37 := Tryz.sizeOf75
  v37 := Tryz.zeroValue75
  t70 := Tryz.underlying74
  a70 := Tryz.isAgg74
  z70 := Tryz.sizeOf74
  v70 := Tryz.zeroValue74
  t72 := Tryz.underlying77
  a72 := Tryz.isAgg77
  z72 := Tryz.sizeOf77
  v72 := Tryz.zeroValue77
  t75 := Tryz.underlying79
  a75 := Tryz.isAgg79
  z75 := Tryz.sizeOf79
  v75 := Tryz.zeroValue79
  t76 := Tryz.underlying80
  a76 := Tryz.isAgg80
  z76 := Tryz.sizeOf80
  v76 := Tryz.zeroValue80
  t127 := Tryz.underlying125
  a127 := Tryz.isAgg125
  z127 := Tryz.sizeOf125
  v127 := Tryz.zeroValue125
  t164 := Tryz.underlying160
  a164 := Tryz.isAgg160
  z164 := Tryz.sizeOf160
  v164 := Tryz.zeroValue160 }
theorem Tryz.Builder_Extra_156 : Builder.Extra Tryz.prog Tryz.lays156_ren := {
  sizeBuilder := by kernel_rfl
  liesBuilder := by kernel_rfl
  t5 := Tryz.underlying5
  a5 := Tryz.isAgg5
  z5 := Tryz.sizeOf5
  v5 := Tryz.zeroValue5
  infoByte := by kernel_rfl
  cellsByte := by kernel_rfl
  sizeByte := by kernel_rfl
  neB5 := by decide }
open Go.RowKit in
theorem Tryz.strings_Join_none (a : Option Addr) (c : Nat) (sep : ByteArray) (w : World) :
    Calls Tryz.prog 31 #[.slice a 0 c, .string sep] w fun e w' => e = .returned (.string ⟨#[]⟩) ∧ w' = w := Any.strings_Join_none Tryz.lays156 Tryz.Builder_Extra_156 a c sep w
open Go.RowKit in
theorem Tryz.strings_Join (bk o c : Nat) (xs : List ByteArray) (sep : ByteArray) (w : World) (hcells : ∀ (j : Nat) x, xs[j]? = some x → w.cell? ⟨bk, o + j, none⟩ = some (.string x)) (hbk : bk < w.heap.size) (hN : xs.length ≤ 140737488355328) (hcap : xs.length ≤ c) (hlen : (Lib.join (xs.map (·.data.toList)) sep.data.toList).length ≤ 140737488355328) :
    Calls Tryz.prog 31 #[.slice (some ⟨bk, o, none⟩) xs.length c, .string sep] w fun e w' => e = .returned (.string ⟨(Lib.join (xs.map (·.data.toList)) sep.data.toList).toArray⟩) ∧ Below w.heap.size w w' := Any.strings_Join Tryz.lays156 Tryz.Builder_Extra_156 bk o c xs sep w hcells hbk hN hcap hlen
def Tryz.laysM173_ren : Go.Shelf.Ren := ⟨fun | 173 => 59 | 246 => 87 | 283 => 107 | 284 => 108 | 285 => 109 | 286 => 110 | 129 => 123 | 317 => 122 | 318 => 124 | 319 => 125 | 320 => 126 | 337 => 136 | 338 => 137 | n => n, fun | 2 => 2 | 3 => 3 | 9 => 9 | 4 => 4 | 171 => 182 | 0 => 0 | 53 => 155 | 37 => 75 | 5 => 5 | 173 => 185 | 212 => 205 | 51 => 176 | 20 => 20 | 213 => 206 | 46 => 169 | 232 => 224 | 233 => 225 | n => n, fun | 17 => 4 | 18 => 6 | 19 => 7 | n => n⟩
theorem Tryz.laysM173 : Go.Proofs.LaysM.n173 Tryz.prog Tryz.laysM173_ren := {
  mixed := by kernel_rfl
  f129 := Tryz.func123.trans (congrArg some (by kernel_rfl))
  f173 := Tryz.func59.trans (congrArg some (by kernel_rfl))
  f246 := Tryz.func87.trans (congrArg some (by kernel_rfl))
  f283 := Tryz.func107.trans (congrArg some (by kernel_rfl))
  f284 := Tryz.func108.trans (congrArg some (by kernel_rfl))
  f285 := Tryz.func109.trans (congrArg some (by kernel_rfl))
  f286 := Tryz.func110.trans (congrArg some (by kernel_rfl))
  f317 := Tryz.func122.trans (congrArg some (by kernel_rfl))
  f318 := Tryz.func124.trans (congrArg some (by kernel_rfl))
  f319 := Tryz.func125.trans (congrArg some (by kernel_rfl))
  f320 := Tryz.func126.trans (congrArg some (by kernel_rfl))
  f337 := Tryz.func136.trans (congrArg some (by kernel_rfl))
  f338 := Tryz.func137.trans (congrArg some (by kernel_rfl))
  t0 := Tryz.underlying0
  a0 := Tryz.isAgg0
  z0 := Tryz.sizeOf0
  v0 := Tryz.zeroValue0
  t2 := Tryz.underlying2
  a2 := Tryz.isAgg2
  z2 := Tryz.sizeOf2
  v2 := Tryz.zeroValue2
  t3 := Tryz.underlying3
  a3 := Tryz.isAgg3
  z3 := Tryz.sizeOf3
  v3 := Tryz.zeroValue3
  t4 := Tryz.underlying4
  a4 := Tryz.isAgg4
  z4 := Tryz.sizeOf4
  v4 := Tryz.zeroValue4
  t5 := Tryz.underlying5
  a5 := Tryz.isAgg5
  z5 := Tryz.sizeOf5
  v5 := Tryz.zeroValue5
  t9 := Tryz.underlying9
  a9 := Tryz.isAgg9
  z9 := Tryz.sizeOf9
  v9 := Tryz.zeroValue9
  t20 := Tryz.underlying20
  a20 := Tryz.isAgg20
  z20 := Tryz.sizeOf20
  v20 := Tryz.zeroValue20
  t37 := Tryz.underlying75
  a37 := Tryz.isAgg75
  z37 := Tryz.sizeOf75
  v37 := Tryz.zeroValue75
  t46 := Tryz.underlying169
  a46 := Tryz.isAgg169
  z46 := Tryz.sizeOf169
  v46 := Tryz.zeroValue169
  t51 := Tryz.underlying176
  a51 := Tryz.isAgg176
  z51 := Tryz.sizeOf176
  v51 := Tryz.zeroValue176
  t53 := Tryz.underlying155
  a53 := Tryz.isAgg155
  z53 := Tryz.sizeOf155
  v53 := Tryz.zeroValue155
  t171 := Tryz.underlying182
  a171 := Tryz.isAgg182
  z171 := Tryz.sizeOf182
  v171 := Tryz.zeroValue182
  t173 := Tryz.underlying185
  a173 := Tryz.isAgg185
  z173 := Tryz.sizeOf185
  v173 := Tryz.zeroValue185
  t212 := Tryz.underlying205
  a212 := Tryz.isAgg205
  z212 := Tryz.sizeOf205
  v212 := Tryz.zeroValue205
  t213 := Tryz.underlying206
  a213 := Tryz.isAgg206
  z213 := Tryz.sizeOf206
  t232 := Tryz.underlying224
  a232 := Tryz.isAgg224
  z232 := Tryz.sizeOf224
  v232 := Tryz.zeroValue224
  t233 := Tryz.underlying225
  a233 := Tryz.isAgg225
  z233 := Tryz.sizeOf225
  v233 := Tryz.zeroValue225
  g17 := by kernel_rfl
  g18 := by kernel_rfl
  g19 := by kernel_rfl
  i0 := by kernel_rfl
  i2 := by kernel_rfl
  i3 := by kernel_rfl
  i4 := by kernel_rfl
  i5 := by kernel_rfl
  i9 := by kernel_rfl
  i20 := by kernel_rfl
  i37 := by kernel_rfl
  i46 := by kernel_rfl
  i51 := by kernel_rfl
  i53 := by kernel_rfl
  i171 := by kernel_rfl
  i173 := by kernel_rfl
  i212 := by kernel_rfl
  i232 := by kernel_rfl
  i233 := by kernel_rfl
  m17 := by kernel_rfl
  m18 := by kernel_rfl
  m19 := by kernel_rfl }
open Go.RowKit Go.Sort Go.Lib in
theorem Tryz.strconv_FormatInt_10 (n : Int) (h0 : -9223372036854775808 ≤ n) (h1 : n ≤ 9223372036854775807) (w : World) (htab : Lib.TabIs Tryz.prog w "internal/strconv.uint64pow10" .u64 Lib.pow10Tab) :
    Calls Tryz.prog 59 #[.int .i64 n, .int .i64 10] w fun e w' => e = .returned (.string ⟨(Lib.itoa n).toArray⟩) ∧ ∃ k os, w' = grow (w.drewN k) os := Any.strconv_FormatInt_10 Tryz.laysM173 n h0 h1 w htab
def Tryz.laysC174_ren : Go.Shelf.Ren := ⟨fun | 174 => 142 | 247 => 144 | 245 => 145 | 287 => 146 | 279 => 147 | 280 => 148 | 281 => 149 | 282 => 150 | 321 => 151 | 322 => 152 | 316 => 153 | 171 => 155 | 205 => 154 | 243 => 156 | 246 => 87 | 283 => 107 | 284 => 108 | 285 => 109 | 286 => 110 | 129 => 123 | 317 => 122 | 318 => 124 | 319 => 125 | 320 => 126 | 337 => 136 | 338 => 137 | n => n, fun | 9 => 9 | 3 => 3 | 2 => 2 | 75 => 79 | 85 => 222 | 4 => 4 | 167 => 227 | 5 => 5 | 53 => 155 | 175 => 228 | 46 => 169 | 168 => 230 | 37 => 75 | 0 => 0 | 210 => 236 | 21 => 21 | 127 => 125 | 145 => 240 | 143 => 238 | 171 => 182 | 173 => 185 | 212 => 205 | 51 => 176 | 20 => 20 | 213 => 206 | 232 => 224 | 233 => 225 | 80 => 88 | n => n, fun | 15 => 8 | 16 => 9 | 17 => 4 | 18 => 6 | 19 => 7 | n => n⟩
theorem Tryz.laysC174 : Go.Proofs.LaysC.n174 Tryz.prog Tryz.laysC174_ren := {
  mixed := by kernel_rfl
  f129 := Tryz.func123.trans (congrArg some (by kernel_rfl))
  f171 := Tryz.func155.trans (congrArg some (by kernel_rfl))
  f174 := Tryz.func142.trans (congrArg some (by kernel_rfl))
  f205 := Tryz.func154.trans (congrArg some (by kernel_rfl))
  f243 := Tryz.func156.trans (congrArg some (by kernel_rfl))
  f245 := Tryz.func145.trans (congrArg some (by kernel_rfl))
  f246 := Tryz.func87.trans (congrArg some (by kernel_rfl))
  f247 := Tryz.func144.trans (congrArg some (by kernel_rfl))
  f279 := Tryz.func147.trans (congrArg some (by kernel_rfl))
  f280 := Tryz.func148.trans (congrArg some (by kernel_rfl))
  f281 := Tryz.func149.trans (congrArg some (by kernel_rfl))
  f282 := Tryz.func150.trans (congrArg some (by kernel_rfl))
  f283 := Tryz.func107.trans (congrArg some (by kernel_rfl))
  f284 := Tryz.func108.trans (congrArg some (by kernel_rfl))
  f285 := Tryz.func109.trans (congrArg some (by kernel_rfl))
  f286 := Tryz.func110.trans (congrArg some (by kernel_rfl))
  f287 := Tryz.func146.trans (congrArg some (by kernel_rfl))
  f316 := Tryz.func153.trans (congrArg some (by kernel_rfl))
  f317 := Tryz.func122.trans (congrArg some (by kernel_rfl))
  f318 := Tryz.func124.trans (congrArg some (by kernel_rfl))
  f319 := Tryz.func125.trans (congrArg some (by kernel_rfl))
  f320 := Tryz.func126.trans (congrArg some (by kernel_rfl))
  f321 := Tryz.func151.trans (congrArg some (by kernel_rfl))
  f322 := Tryz.func152.trans (congrArg some (by kernel_rfl))
  f337 := Tryz.func136.trans (congrArg some (by kernel_rfl))
  f338 := Tryz.func137.trans (congrArg some (by kernel_rfl))
  t0 := Tryz.underlying0
  a0 := Tryz.isAgg0
  z0 := Tryz.sizeOf0
  v0 := Tryz.zeroValue0
  t2 := Tryz.underlying2
  a2 := Tryz.isAgg2
  z2 := Tryz.sizeOf2
  v2 := Tryz.zeroValue2
  t3 := Tryz.underlying3
  a3 := Tryz.isAgg3
  z3 := Tryz.sizeOf3
  v3 := Tryz.zeroValue3
  t4 := Tryz.underlying4
  a4 := Tryz.isAgg4
  z4 := Tryz.sizeOf4
  v4 := Tryz.zeroValue4
  t5 := Tryz.underlying5
  a5 := Tryz.isAgg5
  z5 := Tryz.sizeOf5
  v5 := Tryz.zeroValue5
  t9 := Tryz.underlying9
  a9 := Tryz.isAgg9
  z9 := Tryz.sizeOf9
  v9 := Tryz.zeroValue9
  t20 := Tryz.underlying20
  a20 := Tryz.isAgg20
  z20 := Tryz.sizeOf20
  v20 := Tryz.zeroValue20
  t21 := Tryz.underlying21
  a21 := Tryz.isAgg21
  z21 := Tryz.sizeOf21
  v21 := Tryz.zeroValue21
  t37 := Tryz.underlying75
  a37 := Tryz.isAgg75
  z37 := Tryz.sizeOf75
  v37 := Tryz.zeroValue75
  t46 := Tryz.underlying169
  a46 := Tryz.isAgg169
  z46 := Tryz.sizeOf169
  v46 := Tryz.zeroValue169
  t51 := Tryz.underlying176
  a51 := Tryz.isAgg176
  z51 := Tryz.sizeOf176
  v51 := Tryz.zeroValue176
  t53 := Tryz.underlying155
  a53 := Tryz.isAgg155
  z53 := Tryz.sizeOf155
  v53 := Tryz.zeroValue155
  t75 := Tryz.underlying79
  a75 := Tryz.isAgg79
  z75 := Tryz.sizeOf79
  v75 := Tryz.zeroValue79
  t85 := Tryz.underlying222
  a85 := Tryz.isAgg222
  z85 := Tryz.sizeOf222
  v85 := Tryz.zeroValue222
  t127 := Tryz.underlying125
  a127 := Tryz.isAgg125
  z127 := Tryz.sizeOf125
  v127 := Tryz.zeroValue125
  t143 := Tryz.underlying238
  a143 := Tryz.isAgg238
  z143 := Tryz.sizeOf238
  v143 := Tryz.zeroValue238
  t145 := Tryz.underlying240
  a145 := Tryz.isAgg240
  z145 := Tryz.sizeOf240
  v145 := Tryz.zeroValue240
  t167 := Tryz.underlying227
  a167 := Tryz.isAgg227
  z167 := Tryz.sizeOf227
  v167 := Tryz.zeroValue227
  t168 := Tryz.underlying230
  a168 := Tryz.isAgg230
  z168 := Tryz.sizeOf230
  v168 := Tryz.zeroValue230
  t171 := Tryz.underlying182
  a171 := Tryz.isAgg182
  z171 := Tryz.sizeOf182
  v171 := Tryz.zeroValue182
  t173 := Tryz.underlying185
  a173 := Tryz.isAgg185
  z173 := Tryz.sizeOf185
  v173 := Tryz.zeroValue185
  t175 := Tryz.underlying228
  a175 := Tryz.isAgg228
  z175 := Tryz.sizeOf228
  v175 := Tryz.zeroValue228
  t210 := Tryz.underlying236
  a210 := Tryz.isAgg236
  z210 := Tryz.sizeOf236
  v210 := Tryz.zeroValue236
  t212 := Tryz.underlying205
  a212 := Tryz.isAgg205
  z212 := Tryz.sizeOf205
  v212 := Tryz.zeroValue205
  t213 := Tryz.underlying206
  a213 := Tryz.isAgg206
  z213 := Tryz.sizeOf206
  t232 := Tryz.underlying224
  a232 := Tryz.isAgg224
  z232 := Tryz.sizeOf224
  v232 := Tryz.zeroValue224
  t233 := Tryz.underlying225
  a233 := Tryz.isAgg225
  z233 := Tryz.sizeOf225
  v233 := Tryz.zeroValue225
  g15 := by kernel_rfl
  g16 := by kernel_rfl
  g17 := by kernel_rfl
  g18 := by kernel_rfl
  g19 := by kernel_rfl
  t80 := Tryz.underlying88
  a80 := Tryz.isAgg88
  z80 := Tryz.sizeOf88
  v80 := Tryz.zeroValue88
  i0 := by kernel_rfl
  i2 := by kernel_rfl
  i3 := by kernel_rfl
  i4 := by kernel_rfl
  i5 := by kernel_rfl
  i9 := by kernel_rfl
  i20 := by kernel_rfl
  i21 := by kernel_rfl
  i37 := by kernel_rfl
  i46 := by kernel_rfl
  i51 := by kernel_rfl
  i53 := by kernel_rfl
  i75 := by kernel_rfl
  i80 := by kernel_rfl
  i85 := by kernel_rfl
  i127 := by kernel_rfl
  i143 := by kernel_rfl
  i145 := by kernel_rfl
  i167 := by kernel_rfl
  i168 := by kernel_rfl
  i171 := by kernel_rfl
  i173 := by kernel_rfl
  i175 := by kernel_rfl
  i210 := by kernel_rfl
  i212 := by kernel_rfl
  i232 := by kernel_rfl
  i233 := by kernel_rfl
  m15 := by kernel_rfl
  m16 := by kernel_rfl
  m17 := by kernel_rfl
  m18 := by kernel_rfl
  m19 := by kernel_rfl
  c0 := by kernel_rfl
  c2 := by kernel_rfl
  c3 := by kernel_rfl
  c4 := by kernel_rfl
  c5 := by kernel_rfl
  c9 := by kernel_rfl
  c20 := by kernel_rfl
  c21 := by kernel_rfl
  c37 := by kernel_rfl
  c46 := by kernel_rfl
  c51 := by kernel_rfl
  c53 := by kernel_rfl
  c75 := by kernel_rfl
  c80 := by kernel_rfl
  c85 := by kernel_rfl
  c127 := by kernel_rfl
  c143 := by kernel_rfl
  c145 := by kernel_rfl
  c167 := by kernel_rfl
  c168 := by kernel_rfl
  c171 := by kernel_rfl
  c173 := by kernel_rfl
  c175 := by kernel_rfl
  c210 := by kernel_rfl
  c212 := by kernel_rfl
  c213 := by kernel_rfl
  c232 := by kernel_rfl
  c233 := by kernel_rfl }
def noNum : Lib.NumEnd Int := Lib.parseIntB 64 []
open Go.RowKit in
theorem Tryz.strconv_ParseInt_10_at64_ok (s : ByteArray) (hmax : s.size ≤ 9223372036854775806) (v : Int) (h : Lib.parseIntB 64 s.data.toList = .ok v) (w : World) :
    Calls Tryz.prog 142 #[.string s, .int .i64 10, .int .i64 64] w fun e w' => e = .returned (.tuple #[.int .i64 v, .nilIface]) ∧ (w' = w ∨ ∃ t, w' = Lib.bytesWorld w 5 t) := Any.strconv_ParseInt_10_at64_ok Tryz.laysC174 s hmax v h w
open Go.RowKit in
theorem Tryz.strconv_ParseInt_10_at64_syntax (s : ByteArray) (hlim : s.size ≤ 281474976710656) (h : Lib.parseIntB 64 s.data.toList = noNum) (ev : Value) (w : World) (hv : w.cell? ⟨8, 0, none⟩ = some ev) (hev : ev = .nilIface ∨ ∃ te pe, ev = .iface te pe) :
    Calls Tryz.prog 142 #[.string s, .int .i64 10, .int .i64 64] w fun e w' => ∃ N, e = .returned (.tuple #[.int .i64 (0), .iface 230 (.pointer (some ⟨N, 0, none⟩))]) ∧ w.heap.size ≤ N ∧ w'.heap[N]? = some (.cells #[.string ⟨#[80, 97, 114, 115, 101, 73, 110, 116]⟩, .string s, ev] 236 (0, 0)) ∧ Below w.heap.size w w' := Any.strconv_ParseInt_10_at64_syntax Tryz.laysC174 s hlim h ev w hv hev
open Go.RowKit in
theorem Tryz.strconv_ParseInt_10_at64_range (s : ByteArray) (hlim : s.size ≤ 281474976710656) (h : Lib.parseIntB 64 s.data.toList = .range) (ev : Value) (w : World) (hv : w.cell? ⟨9, 0, none⟩ = some ev) (hev : ev = .nilIface ∨ ∃ te pe, ev = .iface te pe) :
    Calls Tryz.prog 142 #[.string s, .int .i64 10, .int .i64 64] w fun e w' => ∃ N, e = .returned (.tuple #[.int .i64 (Lib.intSat 64 s.data.toList), .iface 230 (.pointer (some ⟨N, 0, none⟩))]) ∧ w.heap.size ≤ N ∧ w'.heap[N]? = some (.cells #[.string ⟨#[80, 97, 114, 115, 101, 73, 110, 116]⟩, .string s, ev] 236 (0, 0)) ∧ Below w.heap.size w w' := Any.strconv_ParseInt_10_at64_range Tryz.laysC174 s hlim h ev w hv hev
def Tryz.lays145_ren : Go.Shelf.Ren := ⟨fun | 145 => 75 | 220 => 97 | 219 => 115 | 217 => 128 | 225 => 129 | 224 => 130 | 267 => 131 | 266 => 138 | 314 => 139 | n => n, fun | 9 => 9 | 4 => 4 | 59 => 137 | 3 => 3 | 5 => 5 | 46 => 169 | 146 => 216 | 51 => 176 | n => n, fun | 1 => 5 | n => n⟩
theorem Tryz.lays145 : Go.Proofs.Lays.n145 Tryz.prog Tryz.lays145_ren := {
  mixed := by kernel_rfl
  f145 := Tryz.func75.trans (congrArg some (by kernel_rfl))
  f217 := Tryz.func128.trans (congrArg some (by kernel_rfl))
  f219 := Tryz.func115.trans (congrArg some (by kernel_rfl))
  f220 := Tryz.func97.trans (congrArg some (by kernel_rfl))
  f224 := Tryz.func130.trans (congrArg some (by kernel_rfl))
  f225 := Tryz.func129.trans (congrArg some (by kernel_rfl))
  f266 := Tryz.func138.trans (congrArg some (by kernel_rfl))
  f267 := Tryz.func131.trans (congrArg some (by kernel_rfl))
  f314 := Tryz.func139.trans (congrArg some (by kernel_rfl))
  t3 := Tryz.underlying3
  a3 := Tryz.isAgg3
  z3 := Tryz.sizeOf3
  v3 := Tryz.zeroValue3
  t4 := Tryz.underlying4
  a4 := Tryz.isAgg4
  z4 := Tryz.sizeOf4
  v4 := Tryz.zeroValue4
  t5 := Tryz.underlying5
  a5 := Tryz.isAgg5
  z5 := Tryz.sizeOf5
  v5 := Tryz.zeroValue5
  t9 := Tryz.underlying9
  a9 := Tryz.isAgg9
  z9 := Tryz.sizeOf9
  v9 := Tryz.zeroValue9
  t46 := Tryz.underlying169
  a46 := Tryz.isAgg169
  z46 := Tryz.sizeOf169
  v46 := Tryz.zeroValue169
  t51 := Tryz.underlying176
  a51 := Tryz.isAgg176
  z51 := Tryz.sizeOf176
  v51 := Tryz.zeroValue176
  t59 := Tryz.underlying137
  a59 := Tryz.isAgg137
  z59 := Tryz.sizeOf137
  v59 := Tryz.zeroValue137
  t146 := Tryz.underlying216
  a146 := Tryz.isAgg216
  z146 := Tryz.sizeOf216
  v146 := Tryz.zeroValue216
  g1 := by kernel_rfl }
open Go.RowKit Go.Lib in
theorem Tryz.strings_Cut (s sep : ByteArray) (m : Int) (w : World) (hs : s.size < 4294967281) (hm : w.cell? ⟨5, 0, none⟩ = some (.int .i64 m)) :
    Calls Tryz.prog 75 #[.string s, .string sep] w fun e w' => e = .returned (.tuple #[.string ⟨(Lib.cut s.data.toList sep.data.toList).1.toArray⟩, .string ⟨(Lib.cut s.data.toList sep.data.toList).2.1.toArray⟩, .bool (Lib.cut s.data.toList sep.data.toList).2.2]) ∧ ∃ n, w' = w.drewN n := Any.strings_Cut Tryz.lays145 s sep m w hs hm
def Tryz.lays146_ren : Go.Shelf.Ren := ⟨fun | 146 => 46 | 221 => 74 | 268 => 94 | 138 => 95 | 143 => 96 | 195 => 112 | 197 => 113 | 218 => 114 | 219 => 115 | 260 => 127 | 217 => 128 | 225 => 129 | 224 => 130 | 267 => 131 | 266 => 138 | 314 => 139 | n => n, fun | 9 => 9 | 31 => 62 | 3 => 3 | 4 => 4 | 0 => 0 | 105 => 188 | 21 => 21 | 5 => 5 | 46 => 169 | 119 => 165 | 139 => 168 | 138 => 167 | 146 => 216 | 51 => 176 | n => n, fun | 1 => 5 | 3 => 0 | 4 => 1 | n => n⟩
theorem Tryz.lays146 : Go.Proofs.Lays.n146 Tryz.prog Tryz.lays146_ren := {
  mixed := by kernel_rfl
  f138 := Tryz.func95.trans (congrArg some (by kernel_rfl))
  f143 := Tryz.func96.trans (congrArg some (by kernel_rfl))
  f146 := Tryz.func46.trans (congrArg some (by kernel_rfl))
  f195 := Tryz.func112.trans (congrArg some (by kernel_rfl))
  f197 := Tryz.func113.trans (congrArg some (by kernel_rfl))
  f217 := Tryz.func128.trans (congrArg some (by kernel_rfl))
  f218 := Tryz.func114.trans (congrArg some (by kernel_rfl))
  f219 := Tryz.func115.trans (congrArg some (by kernel_rfl))
  f221 := Tryz.func74.trans (congrArg some (by kernel_rfl))
  f224 := Tryz.func130.trans (congrArg some (by kernel_rfl))
  f225 := Tryz.func129.trans (congrArg some (by kernel_rfl))
  f260 := Tryz.func127.trans (congrArg some (by kernel_rfl))
  f266 := Tryz.func138.trans (congrArg some (by kernel_rfl))
  f267 := Tryz.func131.trans (congrArg some (by kernel_rfl))
  f268 := Tryz.func94.trans (congrArg some (by kernel_rfl))
  f314 := Tryz.func139.trans (congrArg some (by kernel_rfl))
  t0 := Tryz.underlying0
  a0 := Tryz.isAgg0
  z0 := Tryz.sizeOf0
  v0 := Tryz.zeroValue0
  t3 := Tryz.underlying3
  a3 := Tryz.isAgg3
  z3 := Tryz.sizeOf3
  v3 := Tryz.zeroValue3
  t4 := Tryz.underlying4
  a4 := Tryz.isAgg4
  z4 := Tryz.sizeOf4
  v4 := Tryz.zeroValue4
  t5 := Tryz.underlying5
  a5 := Tryz.isAgg5
  z5 := Tryz.sizeOf5
  v5 := Tryz.zeroValue5
  t9 := Tryz.underlying9
  a9 := Tryz.isAgg9
  z9 := Tryz.sizeOf9
  v9 := Tryz.zeroValue9
  t21 := Tryz.underlying21
  a21 := Tryz.isAgg21
  z21 := Tryz.sizeOf21
  v21 := Tryz.zeroValue21
  t31 := Tryz.underlying62
  a31 := Tryz.isAgg62
  z31 := Tryz.sizeOf62
  v31 := Tryz.zeroValue62
  t46 := Tryz.underlying169
  a46 := Tryz.isAgg169
  z46 := Tryz.sizeOf169
  v46 := Tryz.zeroValue169
  t51 := Tryz.underlying176
  a51 := Tryz.isAgg176
  z51 := Tryz.sizeOf176
  v51 := Tryz.zeroValue176
  t105 := Tryz.underlying188
  a105 := Tryz.isAgg188
  z105 := Tryz.sizeOf188
  v105 := Tryz.zeroValue188
  t119 := Tryz.underlying165
  a119 := Tryz.isAgg165
  z119 := Tryz.sizeOf165
  t138 := Tryz.underlying167
  a138 := Tryz.isAgg167
  z138 := Tryz.sizeOf167
  v138 := Tryz.zeroValue167
  t139 := Tryz.underlying168
  a139 := Tryz.isAgg168
  z139 := Tryz.sizeOf168
  v139 := Tryz.zeroValue168
  t146 := Tryz.underlying216
  a146 := Tryz.isAgg216
  z146 := Tryz.sizeOf216
  v146 := Tryz.zeroValue216
  g1 := by kernel_rfl
  g3 := by kernel_rfl
  g4 := by kernel_rfl }
open Go.RowKit Go.Lib in
theorem Tryz.strings_Split (s sep : ByteArray) (m : Int) (w : World) (hs : s.size < 4294967281) (hm : w.cell? ⟨5, 0, none⟩ = some (.int .i64 m)) (h1 : 1 ≤ sep.size) :
    Calls Tryz.prog 46 #[.string s, .string sep] w fun e w' =>
      e = .returned (.slice (some ⟨w.heap.size, 0, none⟩) (Lib.countB s sep + 1) (Lib.countB s sep + 1)) ∧ w' = w.alloc (.cells ((Lib.splitB sep 0 (Lib.countB s sep) s).map Value.string).toArray 9) := Any.strings_Split Tryz.lays146 (by kernel_rfl) s sep m w hs hm h1
def Tryz.lays200_ren : Go.Shelf.Ren := ⟨fun | 200 => 84 | 261 => 104 | 311 => 120 | 312 => 121 | n => n, fun | 21 => 21 | 4 => 4 | 51 => 176 | 5 => 5 | 119 => 165 | 0 => 0 | 141 => 178 | 196 => 195 | 193 => 192 | 3 => 3 | 198 => 198 | 49 => 196 | 194 => 193 | 201 => 201 | 226 => 213 | 46 => 169 | 227 => 214 | n => n, fun | 7 => 2 | 8 => 3 | n => n⟩
theorem Tryz.lays200 : Go.Proofs.Lays.n200 Tryz.prog Tryz.lays200_ren := {
  mixed := by kernel_rfl
  f200 := Tryz.func84.trans (congrArg some (by kernel_rfl))
  f261 := Tryz.func104.trans (congrArg some (by kernel_rfl))
  f311 := Tryz.func120.trans (congrArg some (by kernel_rfl))
  f312 := Tryz.func121.trans (congrArg some (by kernel_rfl))
  t0 := Tryz.underlying0
  a0 := Tryz.isAgg0
  z0 := Tryz.sizeOf0
  v0 := Tryz.zeroValue0
  t3 := Tryz.underlying3
  a3 := Tryz.isAgg3
  z3 := Tryz.sizeOf3
  v3 := Tryz.zeroValue3
  t4 := Tryz.underlying4
  a4 := Tryz.isAgg4
  z4 := Tryz.sizeOf4
  v4 := Tryz.zeroValue4
  t5 := Tryz.underlying5
  a5 := Tryz.isAgg5
  z5 := Tryz.sizeOf5
  v5 := Tryz.zeroValue5
  t21 := Tryz.underlying21
  a21 := Tryz.isAgg21
  z21 := Tryz.sizeOf21
  v21 := Tryz.zeroValue21
  t46 := Tryz.underlying169
  a46 := Tryz.isAgg169
  z46 := Tryz.sizeOf169
  v46 := Tryz.zeroValue169
  t49 := Tryz.underlying196
  a49 := Tryz.isAgg196
  z49 := Tryz.sizeOf196
  v49 := Tryz.zeroValue196
  t51 := Tryz.underlying176
  a51 := Tryz.isAgg176
  z51 := Tryz.sizeOf176
  v51 := Tryz.zeroValue176
  t119 := Tryz.underlying165
  a119 := Tryz.isAgg165
  z119 := Tryz.sizeOf165
  t141 := Tryz.underlying178
  a141 := Tryz.isAgg178
  z141 := Tryz.sizeOf178
  v141 := Tryz.zeroValue178
  t193 := Tryz.underlying192
  a193 := Tryz.isAgg192
  z193 := Tryz.sizeOf192
  v193 := Tryz.zeroValue192
  t194 := Tryz.underlying193
  a194 := Tryz.isAgg193
  z194 := Tryz.sizeOf193
  v194 := Tryz.zeroValue193
  t196 := Tryz.underlying195
  a196 := Tryz.isAgg195
  z196 := Tryz.sizeOf195
  v196 := Tryz.zeroValue195
  t198 := Tryz.underlying198
  a198 := Tryz.isAgg198
  z198 := Tryz.sizeOf198
  v198 := Tryz.zeroValue198
  t201 := Tryz.underlying201
  a201 := Tryz.isAgg201
  z201 := Tryz.sizeOf201
  v201 := Tryz.zeroValue201
  t226 := Tryz.underlying213
  a226 := Tryz.isAgg213
  z226 := Tryz.sizeOf213
  v226 := Tryz.zeroValue213
  t227 := Tryz.underlying214
  a227 := Tryz.isAgg214
  z227 := Tryz.sizeOf214
  v227 := Tryz.zeroValue214
  g7 := by kernel_rfl
  g8 := by kernel_rfl }
def Tryz.lays260_ren : Go.Shelf.Ren := ⟨fun | 260 => 127 | n => n, fun | 9 => 9 | 21 => 21 | 3 => 3 | 4 => 4 | 5 => 5 | 119 => 165 | 0 => 0 | 46 => 169 | 139 => 168 | 138 => 167 | n => n, fun | 3 => 0 | 4 => 1 | n => n⟩
theorem Tryz.lays260 : Go.Proofs.Lays.n260 Tryz.prog Tryz.lays260_ren := {
  mixed := by kernel_rfl
  f260 := Tryz.func127.trans (congrArg some (by kernel_rfl))
  t0 := Tryz.underlying0
  a0 := Tryz.isAgg0
  z0 := Tryz.sizeOf0
  v0 := Tryz.zeroValue0
  t3 := Tryz.underlying3
  a3 := Tryz.isAgg3
  z3 := Tryz.sizeOf3
  v3 := Tryz.zeroValue3
  t4 := Tryz.underlying4
  a4 := Tryz.isAgg4
  z4 := Tryz.sizeOf4
  v4 := Tryz.zeroValue4
  t5 := Tryz.underlying5
  a5 := Tryz.isAgg5
  z5 := Tryz.sizeOf5
  v5 := Tryz.zeroValue5
  t9 := Tryz.underlying9
  a9 := Tryz.isAgg9
  z9 := Tryz.sizeOf9
  v9 := Tryz.zeroValue9
  t21 := Tryz.underlying21
  a21 := Tryz.isAgg21
  z21 := Tryz.sizeOf21
  v21 := Tryz.zeroValue21
  t46 := Tryz.underlying169
  a46 := Tryz.isAgg169
  z46 := Tryz.sizeOf169
  v46 := Tryz.zeroValue169
  t119 := Tryz.underlying165
  a119 := Tryz.isAgg165
  z119 := Tryz.sizeOf165
  t138 := Tryz.underlying167
  a138 := Tryz.isAgg167
  z138 := Tryz.sizeOf167
  v138 := Tryz.zeroValue167
  t139 := Tryz.underlying168
  a139 := Tryz.isAgg168
  z139 := Tryz.sizeOf168
  v139 := Tryz.zeroValue168
  g3 := by kernel_rfl
  g4 := by kernel_rfl }
open Go.RowKit Go.Lib in
theorem Tryz.unicode_IsLetter_all (r : Int) (w : World) (hlo : -2147483648 ≤ r) (hhi : r ≤ 2147483647) (htab : Lib.TabIs Tryz.prog w "unicode.properties" .u8 Lib.propertiesTab) (hV : RVar 3 letterT w) :
    Calls Tryz.prog 84 #[.int .i32 r] w fun e w' => e = .returned (.bool (isLetterU r)) ∧ Below w.heap.size w w' := Any.unicode_IsLetter_all Tryz.lays200 (by kernel_rfl) r w hlo hhi htab hV
def Tryz.lays196_ren : Go.Shelf.Ren := ⟨fun | 196 => 73 | 259 => 93 | n => n, fun | 9 => 9 | 4 => 4 | 3 => 3 | 5 => 5 | 12 => 12 | 119 => 165 | 0 => 0 | 46 => 169 | 139 => 168 | 138 => 167 | 53 => 155 | n => n, fun | 3 => 0 | 4 => 1 | n => n⟩
theorem Tryz.lays196 : Go.Proofs.Lays.n196 Tryz.prog Tryz.lays196_ren := {
  mixed := by kernel_rfl
  f196 := Tryz.func73.trans (congrArg some (by kernel_rfl))
  f259 := Tryz.func93.trans (congrArg some (by kernel_rfl))
  t0 := Tryz.underlying0
  a0 := Tryz.isAgg0
  z0 := Tryz.sizeOf0
  v0 := Tryz.zeroValue0
  t3 := Tryz.underlying3
  a3 := Tryz.isAgg3
  z3 := Tryz.sizeOf3
  v3 := Tryz.zeroValue3
  t4 := Tryz.underlying4
  a4 := Tryz.isAgg4
  z4 := Tryz.sizeOf4
  v4 := Tryz.zeroValue4
  t5 := Tryz.underlying5
  a5 := Tryz.isAgg5
  z5 := Tryz.sizeOf5
  v5 := Tryz.zeroValue5
  t9 := Tryz.underlying9
  a9 := Tryz.isAgg9
  z9 := Tryz.sizeOf9
  v9 := Tryz.zeroValue9
  t12 := Tryz.underlying12
  a12 := Tryz.isAgg12
  z12 := Tryz.sizeOf12
  v12 := Tryz.zeroValue12
  t46 := Tryz.underlying169
  a46 := Tryz.isAgg169
  z46 := Tryz.sizeOf169
  v46 := Tryz.zeroValue169
  t53 := Tryz.underlying155
  a53 := Tryz.isAgg155
  z53 := Tryz.sizeOf155
  v53 := Tryz.zeroValue155
  t119 := Tryz.underlying165
  a119 := Tryz.isAgg165
  z119 := Tryz.sizeOf165
  t138 := Tryz.underlying167
  a138 := Tryz.isAgg167
  z138 := Tryz.sizeOf167
  v138 := Tryz.zeroValue167
  t139 := Tryz.underlying168
  a139 := Tryz.isAgg168
  z139 := Tryz.sizeOf168
  v139 := Tryz.zeroValue168
  g3 := by kernel_rfl
  g4 := by kernel_rfl }
open Go.RowKit Go.Lib in
theorem Tryz.utf8_ValidString (s : ByteArray) (w : World) (hs : s.size ≤ 9223372036854775807) (hT : Lib.Utf8Tabs 0 1 w) :
    Calls Tryz.prog 73 #[.string s] w fun e w' => e = .returned (.bool (Lib.validD s.data.toList)) ∧ Below w.heap.size w w' := Any.utf8_ValidString Tryz.lays196 s w hs hT
end Go.Proofs
namespace Go.Proofs.YtdkhlgiohpdihaaGreatDoor
open Go.Proofs
theorem pl44 : PlacesA Tryz.prog 44 1 [.int .i64 0, .int .i64 0] := ⟨_, _, _, Tryz.underlying44, Tryz.zeroValue44, Tryz.sizeOf3, rfl⟩
theorem ps62_2 : PlacesS Tryz.prog 62 9 2 1 [.str ⟨#[]⟩, .str ⟨#[]⟩] := ⟨_, Tryz.underlying62, Tryz.sizeOf9, Tryz.zeroValue9, by decide, by decide, by kernel_rfl⟩
theorem ps62_1 : PlacesS Tryz.prog 62 9 1 1 [.str ⟨#[]⟩] := ⟨_, Tryz.underlying62, Tryz.sizeOf9, Tryz.zeroValue9, by decide, by decide, by kernel_rfl⟩
set_option maxRecDepth 20000
variable {E : World}
def inst1 (f : PFunc) (x : PInst) : Bool := decide ((kRow x.op).1 = ⟨#[]⟩) || !decide (x.args.length = (takesL x.op).length) || !x.args.all (hasV f)
def inst2 (f : PFunc) (x : PInst) : Bool := (makesB x.op && !hasV f x.dst) || (!makesB x.op && !decide (x.dst = -1))
def instOK (f : PFunc) (x : PInst) : Bool := !inst1 f x && !inst2 f x && (decide (x.num = 0) || isNum x.op)
def termOK (f : PFunc) (t : PTerm) : Bool := if t.kind = 0 then hasB f t.to0 && decide (t.to1 = 0) && decide (t.var = 0) else if t.kind = 1 then hasV f t.var && hasB f t.to0 && hasB f t.to1 else
  if t.kind = 2 then hasV f t.var && decide (t.to0 = 0 ∧ t.to1 = 0) else false
theorem eq_arr10 (a b c d : Int) (w : World) : (Op.equalIn 10000 44 (.agg [.int .i64 a, .int .i64 b].toArray) (.agg [.int .i64 c, .int .i64 d].toArray)).run Tryz.prog w = .ok (decide (a = c ∧ b = d)) w := eq_arr a b c d w 9998
theorem inst_spec (f : PFunc) (x : PInst) (hx : okL x.args) : AFun Tryz.prog E 43 [.agg (encF f), .agg (encInst x)] (.bool (instOK f x)) := by
  have hl := hx.lt
  refine ACall.intro Tryz.func43 rfl (by decide) rfl ?_
  refine AWP.seq ?_
  refine AWP.region rfl ?_
  refine AOps.boxF (cs := _) rfl rfl rfl ?_
  refine AOps.boxF (cs := _) rfl rfl rfl ?_
  refine AOps.val (Gv.assign (v := .bool _) rfl) ?_
  refine AOps.nil ?_
  refine AWP.seq ?_
  refine AWP.region rfl ?_
  refine AOps.val (Gv.fieldF Tryz.underlying67 rfl Tryz.sizeOf65 (by decide) rfl rfl) ?_
  refine AOps.val (Gv.load1F (c := .int _ _) Tryz.isAgg65 rfl) ?_
  refine AOps.callP (makes_spec _) rfl ?_
  refine AOps.val (Gv.move (v := .tup _) rfl) ?_
  refine AOps.val (Gv.extract (v := .int _ _) rfl rfl) ?_
  refine AOps.val (Gv.extract (v := .bool _) rfl rfl) ?_
  refine AOps.val (Gv.assign (v := .int _ _) rfl) ?_
  refine AOps.val (Gv.assign (v := .bool _) rfl) ?_
  refine AOps.nil ?_
  refine AWP.seq ?_
  refine AWP.block ?_
  refine AWP.seq ?_
  refine AWP.regionDraw (fun j => false) (by kernel_rfl) rfl (Part.perm (.rest _)) ?_
  refine AAny.take (i := 0) rfl (by kernel_rfl) (by kernel_rfl) (by kernel_rfl) (by kernel_rfl) (by kernel_rfl) (by kernel_rfl) (Gv.fieldF Tryz.underlying67 rfl Tryz.sizeOf65 (by decide) rfl rfl) ?_
  refine AAny.take (i := 1) rfl (by kernel_rfl) (by kernel_rfl) (by kernel_rfl) (by kernel_rfl) (by kernel_rfl) (by kernel_rfl) (Gv.load1F (c := .int _ _) Tryz.isAgg65 rfl) ?_
  refine AAny.one (i := 2) rfl (by kernel_rfl) ?_
  refine AOps.callP (word_spec _) rfl ?_
  refine AOps.nil ?_
  refine AAny.take (i := 3) rfl (by kernel_rfl) (by kernel_rfl) (by kernel_rfl) (by kernel_rfl) (by kernel_rfl) (by kernel_rfl) (Gv.eqlT rfl rfl) ?_
  refine AAny.take (i := 4) rfl (by kernel_rfl) (by kernel_rfl) (by kernel_rfl) (by kernel_rfl) (by kernel_rfl) (by kernel_rfl) (Gv.move (v := .bool _) rfl) ?_
  refine AAny.case (s := 18) rfl (fun c1 => ?_) (fun c1 => ?_)
  · skip
    refine AAny.takeF (i := 5) rfl rfl rfl c1 (by kernel_rfl) (by kernel_rfl) (by kernel_rfl) (by kernel_rfl) (by kernel_rfl) (by kernel_rfl) ?_
    refine AAny.takeF (i := 6) rfl rfl rfl c1 (by kernel_rfl) (by kernel_rfl) (by kernel_rfl) (by kernel_rfl) (by kernel_rfl) (by kernel_rfl) ?_
    refine AAny.takeF (i := 7) rfl rfl rfl c1 (by kernel_rfl) (by kernel_rfl) (by kernel_rfl) (by kernel_rfl) (by kernel_rfl) (by kernel_rfl) ?_
    refine AAny.takeF (i := 8) rfl rfl rfl c1 (by kernel_rfl) (by kernel_rfl) (by kernel_rfl) (by kernel_rfl) (by kernel_rfl) (by kernel_rfl) ?_
    refine AAny.takeF (i := 9) rfl rfl rfl c1 (by kernel_rfl) (by kernel_rfl) (by kernel_rfl) (by kernel_rfl) (by kernel_rfl) (by kernel_rfl) ?_
    refine AAny.takeF (i := 10) rfl rfl rfl c1 (by kernel_rfl) (by kernel_rfl) (by kernel_rfl) (by kernel_rfl) (by kernel_rfl) (by kernel_rfl) ?_
    refine AAny.takeF (i := 11) rfl rfl rfl c1 (by kernel_rfl) (by kernel_rfl) (by kernel_rfl) (by kernel_rfl) (by kernel_rfl) (by kernel_rfl) ?_
    refine AAny.takeF (i := 12) rfl rfl rfl c1 (by kernel_rfl) (by kernel_rfl) (by kernel_rfl) (by kernel_rfl) (by kernel_rfl) (by kernel_rfl) ?_
    refine AAny.take (i := 13) rfl (by kernel_rfl) (by kernel_rfl) (by kernel_rfl) (by kernel_rfl) (by kernel_rfl) (by kernel_rfl) (Gv.pickT (v := .bool _) rfl c1 rfl) ?_
    refine AAny.take (i := 14) rfl (by kernel_rfl) (by kernel_rfl) (by kernel_rfl) (by kernel_rfl) (by kernel_rfl) (by kernel_rfl) (Gv.move (v := .bool _) rfl) ?_
    refine AAny.takeF (i := 15) rfl rfl rfl rfl (by kernel_rfl) (by kernel_rfl) (by kernel_rfl) (by kernel_rfl) (by kernel_rfl) (by kernel_rfl) ?_
    refine AAny.takeF (i := 16) rfl rfl rfl rfl (by kernel_rfl) (by kernel_rfl) (by kernel_rfl) (by kernel_rfl) (by kernel_rfl) (by kernel_rfl) ?_
    refine AAny.takeF (i := 17) rfl rfl rfl rfl (by kernel_rfl) (by kernel_rfl) (by kernel_rfl) (by kernel_rfl) (by kernel_rfl) (by kernel_rfl) ?_
    refine AAny.takeF (i := 18) rfl rfl rfl rfl (by kernel_rfl) (by kernel_rfl) (by kernel_rfl) (by kernel_rfl) (by kernel_rfl) (by kernel_rfl) ?_
    refine AAny.takeF (i := 19) rfl rfl rfl rfl (by kernel_rfl) (by kernel_rfl) (by kernel_rfl) (by kernel_rfl) (by kernel_rfl) (by kernel_rfl) ?_
    refine AAny.take (i := 20) rfl (by kernel_rfl) (by kernel_rfl) (by kernel_rfl) (by kernel_rfl) (by kernel_rfl) (by kernel_rfl) (Gv.pickT (v := .bool _) rfl rfl rfl) ?_
    refine AAny.take (i := 21) rfl (by kernel_rfl) (by kernel_rfl) (by kernel_rfl) (by kernel_rfl) (by kernel_rfl) (by kernel_rfl) (Gv.assign (v := .bool _) rfl) ?_
    refine AAny.done (by kernel_rfl) ?_
    refine AWP.condT rfl rfl ?_
    refine AWP.seq ?_
    refine AWP.region rfl ?_
    refine AOps.val (Gv.assign (v := .bool _) rfl) ?_
    refine AOps.nil ?_
    refine AWP.ret ?_
    repeat (first | refine aseqQ_ret ?_ | refine ablockQ_ret ?_)
    refine afin.t1 (x := .bool _) rfl ?_
    exact jb (by simp_all [instOK, inst1, inst2, Int.ofNat_inj] <;> grind)
  · skip
    refine AAny.takeT (i := 5) rfl rfl rfl c1 (by kernel_rfl) (by kernel_rfl) (by kernel_rfl) (by kernel_rfl) (by kernel_rfl) (by kernel_rfl) (Gv.fieldF Tryz.underlying67 rfl Tryz.sizeOf24 (by decide) rfl rfl) ?_
    refine AAny.takeT (i := 6) rfl rfl rfl c1 (by kernel_rfl) (by kernel_rfl) (by kernel_rfl) (by kernel_rfl) (by kernel_rfl) (by kernel_rfl) (Gv.load1F (c := .fro _ _) Tryz.isAgg24 rfl) ?_
    refine AAny.takeT (i := 7) rfl rfl rfl c1 (by kernel_rfl) (by kernel_rfl) (by kernel_rfl) (by kernel_rfl) (by kernel_rfl) (by kernel_rfl) (Gv.lenM Tryz.underlying24 rfl) ?_
    refine AAny.takeT (i := 8) rfl rfl rfl c1 (by kernel_rfl) (by kernel_rfl) (by kernel_rfl) (by kernel_rfl) (by kernel_rfl) (by kernel_rfl) (Gv.fieldF Tryz.underlying67 rfl Tryz.sizeOf65 (by decide) rfl rfl) ?_
    refine AAny.takeT (i := 9) rfl rfl rfl c1 (by kernel_rfl) (by kernel_rfl) (by kernel_rfl) (by kernel_rfl) (by kernel_rfl) (by kernel_rfl) (Gv.load1F (c := .int _ _) Tryz.isAgg65 rfl) ?_
    refine AAny.one (i := 10) rfl (by kernel_rfl) ?_
    refine AOps.guardT rfl rfl c1 ?_
    refine AOps.callP (takes_spec _) rfl ?_
    refine AOps.nil ?_
    refine AAny.takeT (i := 11) rfl rfl rfl c1 (by kernel_rfl) (by kernel_rfl) (by kernel_rfl) (by kernel_rfl) (by kernel_rfl) (by kernel_rfl) (Gv.lenM Tryz.underlying134 rfl) ?_
    refine AAny.takeT (i := 12) rfl rfl rfl c1 (by kernel_rfl) (by kernel_rfl) (by kernel_rfl) (by kernel_rfl) (by kernel_rfl) (by kernel_rfl) (Gv.neqI rfl rfl) ?_
    refine AAny.take (i := 13) rfl (by kernel_rfl) (by kernel_rfl) (by kernel_rfl) (by kernel_rfl) (by kernel_rfl) (by kernel_rfl) (Gv.pickF (v := .bool _) rfl c1 rfl) ?_
    refine AAny.take (i := 14) rfl (by kernel_rfl) (by kernel_rfl) (by kernel_rfl) (by kernel_rfl) (by kernel_rfl) (by kernel_rfl) (Gv.move (v := .bool _) rfl) ?_
    refine AAny.case (s := 28) rfl (fun c2 => ?_) (fun c2 => ?_)
    · skip
      refine AAny.takeF (i := 15) rfl rfl rfl c2 (by kernel_rfl) (by kernel_rfl) (by kernel_rfl) (by kernel_rfl) (by kernel_rfl) (by kernel_rfl) ?_
      refine AAny.takeF (i := 16) rfl rfl rfl c2 (by kernel_rfl) (by kernel_rfl) (by kernel_rfl) (by kernel_rfl) (by kernel_rfl) (by kernel_rfl) ?_
      refine AAny.takeF (i := 17) rfl rfl rfl c2 (by kernel_rfl) (by kernel_rfl) (by kernel_rfl) (by kernel_rfl) (by kernel_rfl) (by kernel_rfl) ?_
      refine AAny.takeF (i := 18) rfl rfl rfl c2 (by kernel_rfl) (by kernel_rfl) (by kernel_rfl) (by kernel_rfl) (by kernel_rfl) (by kernel_rfl) ?_
      refine AAny.takeF (i := 19) rfl rfl rfl c2 (by kernel_rfl) (by kernel_rfl) (by kernel_rfl) (by kernel_rfl) (by kernel_rfl) (by kernel_rfl) ?_
      refine AAny.take (i := 20) rfl (by kernel_rfl) (by kernel_rfl) (by kernel_rfl) (by kernel_rfl) (by kernel_rfl) (by kernel_rfl) (Gv.pickT (v := .bool _) rfl c2 rfl) ?_
      refine AAny.take (i := 21) rfl (by kernel_rfl) (by kernel_rfl) (by kernel_rfl) (by kernel_rfl) (by kernel_rfl) (by kernel_rfl) (Gv.assign (v := .bool _) rfl) ?_
      refine AAny.done (by kernel_rfl) ?_
      refine AWP.condT rfl rfl ?_
      refine AWP.seq ?_
      refine AWP.region rfl ?_
      refine AOps.val (Gv.assign (v := .bool _) rfl) ?_
      refine AOps.nil ?_
      refine AWP.ret ?_
      repeat (first | refine aseqQ_ret ?_ | refine ablockQ_ret ?_)
      refine afin.t1 (x := .bool _) rfl ?_
      exact jb (by simp_all [instOK, inst1, inst2, Int.ofNat_inj] <;> grind)
    · skip
      refine AAny.takeT (i := 15) rfl rfl rfl c2 (by kernel_rfl) (by kernel_rfl) (by kernel_rfl) (by kernel_rfl) (by kernel_rfl) (by kernel_rfl) (Gv.loadWF Tryz.isAgg27 Tryz.sizeOf27 rfl rfl) ?_
      refine AAny.takeT (i := 16) rfl rfl rfl c2 (by kernel_rfl) (by kernel_rfl) (by kernel_rfl) (by kernel_rfl) (by kernel_rfl) (by kernel_rfl) (Gv.fieldF Tryz.underlying67 rfl Tryz.sizeOf24 (by decide) rfl rfl) ?_
      refine AAny.takeT (i := 17) rfl rfl rfl c2 (by kernel_rfl) (by kernel_rfl) (by kernel_rfl) (by kernel_rfl) (by kernel_rfl) (by kernel_rfl) (Gv.load1F (c := .fro _ _) Tryz.isAgg24 rfl) ?_
      refine AAny.one (i := 18) rfl (by kernel_rfl) ?_
      refine AOps.guardT rfl rfl c2 ?_
      refine AOps.callP (vars_spec _ _ (by omega)) rfl ?_
      refine AOps.nil ?_
      refine AAny.takeT (i := 19) rfl rfl rfl c2 (by kernel_rfl) (by kernel_rfl) (by kernel_rfl) (by kernel_rfl) (by kernel_rfl) (by kernel_rfl) (Gv.not rfl) ?_
      refine AAny.take (i := 20) rfl (by kernel_rfl) (by kernel_rfl) (by kernel_rfl) (by kernel_rfl) (by kernel_rfl) (by kernel_rfl) (Gv.pickF (v := .bool _) rfl c2 rfl) ?_
      refine AAny.take (i := 21) rfl (by kernel_rfl) (by kernel_rfl) (by kernel_rfl) (by kernel_rfl) (by kernel_rfl) (by kernel_rfl) (Gv.assign (v := .bool _) rfl) ?_
      refine AAny.done (by kernel_rfl) ?_
      refine AWP.cond rfl (fun c3 => ?_) (fun c3 => ?_)
      · skip
        refine AWP.seq ?_
        refine AWP.region rfl ?_
        refine AOps.val (Gv.assign (v := .bool _) rfl) ?_
        refine AOps.nil ?_
        refine AWP.ret ?_
        repeat (first | refine aseqQ_ret ?_ | refine ablockQ_ret ?_)
        refine afin.t1 (x := .bool _) rfl ?_
        exact jb (by simp_all [instOK, inst1, inst2, Int.ofNat_inj] <;> grind)
      · skip
        refine AWP.seq ?_
        refine AWP.region rfl ?_
        refine AOps.val (Gv.move (v := .bool _) rfl) ?_
        refine AOps.val (Gv.move (v := .bool _) rfl) ?_
        refine AOps.case (s := 37) rfl (fun c4 => ?_) (fun c4 => ?_)
        · skip
          refine AOps.guardT rfl rfl c4 ?_
          refine AOps.val (Gv.loadWF Tryz.isAgg27 Tryz.sizeOf27 rfl rfl) ?_
          refine AOps.guardT rfl rfl c4 ?_
          refine AOps.val (Gv.fieldF Tryz.underlying67 rfl Tryz.sizeOf3 (by decide) rfl rfl) ?_
          refine AOps.guardT rfl rfl c4 ?_
          refine AOps.val (Gv.load1F (c := .int _ _) Tryz.isAgg3 rfl) ?_
          refine AOps.guardT rfl rfl c4 ?_
          refine AOps.callP (has_spec _ _) rfl ?_
          refine AOps.guardT rfl rfl c4 ?_
          refine AOps.val (Gv.not rfl) ?_
          refine AOps.val (Gv.pickT (v := .bool _) rfl c4 rfl) ?_
          refine AOps.val (Gv.move (v := .bool _) rfl) ?_
          refine AOps.case (s := 44) rfl (fun c5 => ?_) (fun c5 => ?_)
          · skip
            refine AOps.guardFd rfl rfl c5 ?_
            refine AOps.guardFd rfl rfl c5 ?_
            refine AOps.guardFd rfl rfl c5 ?_
            refine AOps.guardUd rfl rfl ?_
            refine AOps.guardUd rfl rfl ?_
            refine AOps.guardUd rfl rfl ?_
            refine AOps.guardFd rfl rfl c5 ?_
            refine AOps.val (Gv.pickT (v := .bool _) rfl c5 rfl) ?_
            refine AOps.val (Gv.assign (v := .bool _) rfl) ?_
            refine AOps.nil ?_
            refine AWP.condT rfl rfl ?_
            refine AWP.seq ?_
            refine AWP.region rfl ?_
            refine AOps.val (Gv.assign (v := .bool _) rfl) ?_
            refine AOps.nil ?_
            refine AWP.ret ?_
            repeat (first | refine aseqQ_ret ?_ | refine ablockQ_ret ?_)
            refine afin.t1 (x := .bool _) rfl ?_
            exact jb (by simp_all [instOK, inst1, inst2, Int.ofNat_inj] <;> grind)
          · skip
            refine AOps.guardT rfl rfl c5 ?_
            refine AOps.val (Gv.move (v := .bool _) rfl) ?_
            refine AOps.guardT rfl rfl c5 ?_
            refine AOps.val (Gv.not rfl) ?_
            refine AOps.guardT rfl rfl c5 ?_
            refine AOps.val (Gv.move (v := .bool _) rfl) ?_
            refine AOps.case (s := 47) rfl (fun c6 => ?_) (fun c6 => ?_)
            · skip
              refine AOps.guardT rfl rfl c6 ?_
              refine AOps.val (Gv.fieldF Tryz.underlying67 rfl Tryz.sizeOf3 (by decide) rfl rfl) ?_
              refine AOps.guardT rfl rfl c6 ?_
              refine AOps.val (Gv.load1F (c := .int _ _) Tryz.isAgg3 rfl) ?_
              refine AOps.guardT rfl rfl c6 ?_
              refine AOps.val (Gv.neqI rfl rfl) ?_
              refine AOps.guardT rfl rfl c5 ?_
              refine AOps.val (Gv.pickT (v := .bool _) rfl c6 rfl) ?_
              refine AOps.val (Gv.pickF (v := .bool _) rfl c5 rfl) ?_
              refine AOps.val (Gv.assign (v := .bool _) rfl) ?_
              refine AOps.nil ?_
              refine AWP.cond rfl (fun c7 => ?_) (fun c7 => ?_)
              · skip
                refine AWP.seq ?_
                refine AWP.region rfl ?_
                refine AOps.val (Gv.assign (v := .bool _) rfl) ?_
                refine AOps.nil ?_
                refine AWP.ret ?_
                repeat (first | refine aseqQ_ret ?_ | refine ablockQ_ret ?_)
                refine afin.t1 (x := .bool _) rfl ?_
                exact jb (by simp_all [instOK, inst1, inst2, Int.ofNat_inj] <;> grind)
              · skip
                refine AWP.skip ?_
                refine AWP.seq ?_
                refine AWP.region rfl ?_
                refine AOps.val (Gv.fieldF Tryz.underlying67 rfl Tryz.sizeOf2 (by decide) rfl rfl) ?_
                refine AOps.val (Gv.load1F (c := .int _ _) Tryz.isAgg2 rfl) ?_
                refine AOps.val (Gv.eqlI rfl rfl) ?_
                refine AOps.val (Gv.move (v := .bool _) rfl) ?_
                refine AOps.case (s := 56) rfl (fun c8 => ?_) (fun c8 => ?_)
                · skip
                  refine AOps.guardFd rfl rfl c8 ?_
                  refine AOps.guardFd rfl rfl c8 ?_
                  refine AOps.guardFd rfl rfl c8 ?_
                  refine AOps.val (Gv.pickT (v := .bool _) rfl c8 rfl) ?_
                  refine AOps.val (Gv.assign (v := .bool _) rfl) ?_
                  refine AOps.nil ?_
                  refine AWP.ret ?_
                  repeat (first | refine aseqQ_ret ?_ | refine ablockQ_ret ?_)
                  refine afin.t1 (x := .bool _) rfl ?_
                  exact jb (by simp_all [instOK, inst1, inst2, Int.ofNat_inj] <;> grind)
                · skip
                  refine AOps.guardT rfl rfl c8 ?_
                  refine AOps.val (Gv.fieldF Tryz.underlying67 rfl Tryz.sizeOf65 (by decide) rfl rfl) ?_
                  refine AOps.guardT rfl rfl c8 ?_
                  refine AOps.val (Gv.load1F (c := .int _ _) Tryz.isAgg65 rfl) ?_
                  refine AOps.guardT rfl rfl c8 ?_
                  refine AOps.callP (numbered_spec _) rfl ?_
                  refine AOps.val (Gv.pickF (v := .bool _) rfl c8 rfl) ?_
                  refine AOps.val (Gv.assign (v := .bool _) rfl) ?_
                  refine AOps.nil ?_
                  refine AWP.ret ?_
                  repeat (first | refine aseqQ_ret ?_ | refine ablockQ_ret ?_)
                  refine afin.t1 (x := .bool _) rfl ?_
                  exact jb (by simp_all [instOK, inst1, inst2, Int.ofNat_inj] <;> grind)
            · skip
              refine AOps.guardFd rfl rfl c6 ?_
              refine AOps.guardFd rfl rfl c6 ?_
              refine AOps.guardFd rfl rfl c6 ?_
              refine AOps.guardT rfl rfl c5 ?_
              refine AOps.val (Gv.pickF (v := .bool _) rfl c6 rfl) ?_
              refine AOps.val (Gv.pickF (v := .bool _) rfl c5 rfl) ?_
              refine AOps.val (Gv.assign (v := .bool _) rfl) ?_
              refine AOps.nil ?_
              refine AWP.condF rfl rfl ?_
              refine AWP.skip ?_
              refine AWP.seq ?_
              refine AWP.region rfl ?_
              refine AOps.val (Gv.fieldF Tryz.underlying67 rfl Tryz.sizeOf2 (by decide) rfl rfl) ?_
              refine AOps.val (Gv.load1F (c := .int _ _) Tryz.isAgg2 rfl) ?_
              refine AOps.val (Gv.eqlI rfl rfl) ?_
              refine AOps.val (Gv.move (v := .bool _) rfl) ?_
              refine AOps.case (s := 56) rfl (fun c9 => ?_) (fun c9 => ?_)
              · skip
                refine AOps.guardFd rfl rfl c9 ?_
                refine AOps.guardFd rfl rfl c9 ?_
                refine AOps.guardFd rfl rfl c9 ?_
                refine AOps.val (Gv.pickT (v := .bool _) rfl c9 rfl) ?_
                refine AOps.val (Gv.assign (v := .bool _) rfl) ?_
                refine AOps.nil ?_
                refine AWP.ret ?_
                repeat (first | refine aseqQ_ret ?_ | refine ablockQ_ret ?_)
                refine afin.t1 (x := .bool _) rfl ?_
                exact jb (by simp_all [instOK, inst1, inst2, Int.ofNat_inj] <;> grind)
              · skip
                refine AOps.guardT rfl rfl c9 ?_
                refine AOps.val (Gv.fieldF Tryz.underlying67 rfl Tryz.sizeOf65 (by decide) rfl rfl) ?_
                refine AOps.guardT rfl rfl c9 ?_
                refine AOps.val (Gv.load1F (c := .int _ _) Tryz.isAgg65 rfl) ?_
                refine AOps.guardT rfl rfl c9 ?_
                refine AOps.callP (numbered_spec _) rfl ?_
                refine AOps.val (Gv.pickF (v := .bool _) rfl c9 rfl) ?_
                refine AOps.val (Gv.assign (v := .bool _) rfl) ?_
                refine AOps.nil ?_
                refine AWP.ret ?_
                repeat (first | refine aseqQ_ret ?_ | refine ablockQ_ret ?_)
                refine afin.t1 (x := .bool _) rfl ?_
                exact jb (by simp_all [instOK, inst1, inst2, Int.ofNat_inj] <;> grind)
        · skip
          refine AOps.guardFd rfl rfl c4 ?_
          refine AOps.guardFd rfl rfl c4 ?_
          refine AOps.guardFd rfl rfl c4 ?_
          refine AOps.guardFd rfl rfl c4 ?_
          refine AOps.guardFd rfl rfl c4 ?_
          refine AOps.val (Gv.pickF (v := .bool _) rfl c4 rfl) ?_
          refine AOps.val (Gv.move (v := .bool _) rfl) ?_
          refine AOps.guardT rfl rfl rfl ?_
          refine AOps.val (Gv.move (v := .bool _) rfl) ?_
          refine AOps.guardT rfl rfl rfl ?_
          refine AOps.val (Gv.not rfl) ?_
          refine AOps.guardT rfl rfl rfl ?_
          refine AOps.val (Gv.move (v := .bool _) rfl) ?_
          refine AOps.case (s := 47) rfl (fun c10 => ?_) (fun c10 => ?_)
          · skip
            refine AOps.guardT rfl rfl c10 ?_
            refine AOps.val (Gv.fieldF Tryz.underlying67 rfl Tryz.sizeOf3 (by decide) rfl rfl) ?_
            refine AOps.guardT rfl rfl c10 ?_
            refine AOps.val (Gv.load1F (c := .int _ _) Tryz.isAgg3 rfl) ?_
            refine AOps.guardT rfl rfl c10 ?_
            refine AOps.val (Gv.neqI rfl rfl) ?_
            refine AOps.guardT rfl rfl rfl ?_
            refine AOps.val (Gv.pickT (v := .bool _) rfl c10 rfl) ?_
            refine AOps.val (Gv.pickF (v := .bool _) rfl rfl rfl) ?_
            refine AOps.val (Gv.assign (v := .bool _) rfl) ?_
            refine AOps.nil ?_
            refine AWP.cond rfl (fun c11 => ?_) (fun c11 => ?_)
            · skip
              refine AWP.seq ?_
              refine AWP.region rfl ?_
              refine AOps.val (Gv.assign (v := .bool _) rfl) ?_
              refine AOps.nil ?_
              refine AWP.ret ?_
              repeat (first | refine aseqQ_ret ?_ | refine ablockQ_ret ?_)
              refine afin.t1 (x := .bool _) rfl ?_
              exact jb (by simp_all [instOK, inst1, inst2, Int.ofNat_inj] <;> grind)
            · skip
              refine AWP.skip ?_
              refine AWP.seq ?_
              refine AWP.region rfl ?_
              refine AOps.val (Gv.fieldF Tryz.underlying67 rfl Tryz.sizeOf2 (by decide) rfl rfl) ?_
              refine AOps.val (Gv.load1F (c := .int _ _) Tryz.isAgg2 rfl) ?_
              refine AOps.val (Gv.eqlI rfl rfl) ?_
              refine AOps.val (Gv.move (v := .bool _) rfl) ?_
              refine AOps.case (s := 56) rfl (fun c12 => ?_) (fun c12 => ?_)
              · skip
                refine AOps.guardFd rfl rfl c12 ?_
                refine AOps.guardFd rfl rfl c12 ?_
                refine AOps.guardFd rfl rfl c12 ?_
                refine AOps.val (Gv.pickT (v := .bool _) rfl c12 rfl) ?_
                refine AOps.val (Gv.assign (v := .bool _) rfl) ?_
                refine AOps.nil ?_
                refine AWP.ret ?_
                repeat (first | refine aseqQ_ret ?_ | refine ablockQ_ret ?_)
                refine afin.t1 (x := .bool _) rfl ?_
                exact jb (by simp_all [instOK, inst1, inst2, Int.ofNat_inj] <;> grind)
              · skip
                refine AOps.guardT rfl rfl c12 ?_
                refine AOps.val (Gv.fieldF Tryz.underlying67 rfl Tryz.sizeOf65 (by decide) rfl rfl) ?_
                refine AOps.guardT rfl rfl c12 ?_
                refine AOps.val (Gv.load1F (c := .int _ _) Tryz.isAgg65 rfl) ?_
                refine AOps.guardT rfl rfl c12 ?_
                refine AOps.callP (numbered_spec _) rfl ?_
                refine AOps.val (Gv.pickF (v := .bool _) rfl c12 rfl) ?_
                refine AOps.val (Gv.assign (v := .bool _) rfl) ?_
                refine AOps.nil ?_
                refine AWP.ret ?_
                repeat (first | refine aseqQ_ret ?_ | refine ablockQ_ret ?_)
                refine afin.t1 (x := .bool _) rfl ?_
                exact jb (by simp_all [instOK, inst1, inst2, Int.ofNat_inj] <;> grind)
          · skip
            refine AOps.guardFd rfl rfl c10 ?_
            refine AOps.guardFd rfl rfl c10 ?_
            refine AOps.guardFd rfl rfl c10 ?_
            refine AOps.guardT rfl rfl rfl ?_
            refine AOps.val (Gv.pickF (v := .bool _) rfl c10 rfl) ?_
            refine AOps.val (Gv.pickF (v := .bool _) rfl rfl rfl) ?_
            refine AOps.val (Gv.assign (v := .bool _) rfl) ?_
            refine AOps.nil ?_
            refine AWP.condF rfl rfl ?_
            refine AWP.skip ?_
            refine AWP.seq ?_
            refine AWP.region rfl ?_
            refine AOps.val (Gv.fieldF Tryz.underlying67 rfl Tryz.sizeOf2 (by decide) rfl rfl) ?_
            refine AOps.val (Gv.load1F (c := .int _ _) Tryz.isAgg2 rfl) ?_
            refine AOps.val (Gv.eqlI rfl rfl) ?_
            refine AOps.val (Gv.move (v := .bool _) rfl) ?_
            refine AOps.case (s := 56) rfl (fun c13 => ?_) (fun c13 => ?_)
            · skip
              refine AOps.guardFd rfl rfl c13 ?_
              refine AOps.guardFd rfl rfl c13 ?_
              refine AOps.guardFd rfl rfl c13 ?_
              refine AOps.val (Gv.pickT (v := .bool _) rfl c13 rfl) ?_
              refine AOps.val (Gv.assign (v := .bool _) rfl) ?_
              refine AOps.nil ?_
              refine AWP.ret ?_
              repeat (first | refine aseqQ_ret ?_ | refine ablockQ_ret ?_)
              refine afin.t1 (x := .bool _) rfl ?_
              exact jb (by simp_all [instOK, inst1, inst2, Int.ofNat_inj] <;> grind)
            · skip
              refine AOps.guardT rfl rfl c13 ?_
              refine AOps.val (Gv.fieldF Tryz.underlying67 rfl Tryz.sizeOf65 (by decide) rfl rfl) ?_
              refine AOps.guardT rfl rfl c13 ?_
              refine AOps.val (Gv.load1F (c := .int _ _) Tryz.isAgg65 rfl) ?_
              refine AOps.guardT rfl rfl c13 ?_
              refine AOps.callP (numbered_spec _) rfl ?_
              refine AOps.val (Gv.pickF (v := .bool _) rfl c13 rfl) ?_
              refine AOps.val (Gv.assign (v := .bool _) rfl) ?_
              refine AOps.nil ?_
              refine AWP.ret ?_
              repeat (first | refine aseqQ_ret ?_ | refine ablockQ_ret ?_)
              refine afin.t1 (x := .bool _) rfl ?_
              exact jb (by simp_all [instOK, inst1, inst2, Int.ofNat_inj] <;> grind)
theorem term_spec (f : PFunc) (t : PTerm) : AFun Tryz.prog E 44 [.agg (encF f), .agg (encTerm t)] (.bool (termOK f t)) := by
  refine ACall.intro Tryz.func44 rfl (by decide) rfl ?_
  refine AWP.seq ?_
  refine AWP.region rfl ?_
  refine AOps.boxF (cs := _) rfl rfl rfl ?_
  refine AOps.boxF (cs := _) rfl rfl rfl ?_
  refine AOps.val (Gv.assign (v := .bool _) rfl) ?_
  refine AOps.nil ?_
  refine AWP.seq ?_
  refine AWP.seq ?_
  refine AWP.region rfl ?_
  refine AOps.val (Gv.fieldF Tryz.underlying46 rfl Tryz.sizeOf43 (by decide) rfl rfl) ?_
  refine AOps.val (Gv.load1F (c := .int _ _) Tryz.isAgg43 rfl) ?_
  refine AOps.nil ?_
  refine AWP.block ?_
  refine AWP.seq ?_
  refine AWP.region rfl ?_
  refine AOps.val (Gv.eqlI rfl rfl) ?_
  refine AOps.val (Gv.assign (v := .bool _) rfl) ?_
  refine AOps.nil ?_
  refine AWP.cond rfl (fun c14 => ?_) (fun c14 => ?_)
  · skip
    refine AWP.seq ?_
    refine AWP.region rfl ?_
    refine AOps.val (Gv.loadWF Tryz.isAgg27 Tryz.sizeOf27 rfl rfl) ?_
    refine AOps.val (Gv.fieldF Tryz.underlying46 rfl Tryz.sizeOf44 (by decide) rfl rfl) ?_
    refine AOps.val (Gv.idxAF (j := 0) Tryz.underlying44 Tryz.sizeOf3 rfl rfl rfl (by decide) rfl) ?_
    refine AOps.val (Gv.load1F (c := .int _ _) Tryz.isAgg3 rfl) ?_
    refine AOps.callP (at_spec _ _) rfl ?_
    refine AOps.val (Gv.move (v := .bool _) rfl) ?_
    refine AOps.case (s := 14) rfl (fun c15 => ?_) (fun c15 => ?_)
    · skip
      refine AOps.guardT rfl rfl c15 ?_
      refine AOps.val (Gv.fieldF Tryz.underlying46 rfl Tryz.sizeOf44 (by decide) rfl rfl) ?_
      refine AOps.guardT rfl rfl c15 ?_
      refine AOps.val (Gv.idxAF (j := 1) Tryz.underlying44 Tryz.sizeOf3 rfl rfl rfl (by decide) rfl) ?_
      refine AOps.guardT rfl rfl c15 ?_
      refine AOps.val (Gv.load1F (c := .int _ _) Tryz.isAgg3 rfl) ?_
      refine AOps.guardT rfl rfl c15 ?_
      refine AOps.val (Gv.eqlI rfl rfl) ?_
      refine AOps.val (Gv.pickT (v := .bool _) rfl c15 rfl) ?_
      refine AOps.val (Gv.move (v := .bool _) rfl) ?_
      refine AOps.case (s := 20) rfl (fun c16 => ?_) (fun c16 => ?_)
      · skip
        refine AOps.guardT rfl rfl c16 ?_
        refine AOps.val (Gv.fieldF Tryz.underlying46 rfl Tryz.sizeOf3 (by decide) rfl rfl) ?_
        refine AOps.guardT rfl rfl c16 ?_
        refine AOps.val (Gv.load1F (c := .int _ _) Tryz.isAgg3 rfl) ?_
        refine AOps.guardT rfl rfl c16 ?_
        refine AOps.val (Gv.eqlI rfl rfl) ?_
        refine AOps.val (Gv.pickT (v := .bool _) rfl c16 rfl) ?_
        refine AOps.val (Gv.assign (v := .bool _) rfl) ?_
        refine AOps.nil ?_
        refine AWP.ret ?_
        repeat (first | refine aseqQ_ret ?_ | refine ablockQ_ret ?_)
        refine afin.t1 (x := .bool _) rfl ?_
        exact jb (by simp_all [termOK] <;> grind)
      · skip
        refine AOps.guardFd rfl rfl c16 ?_
        refine AOps.guardFd rfl rfl c16 ?_
        refine AOps.guardFd rfl rfl c16 ?_
        refine AOps.val (Gv.pickF (v := .bool _) rfl c16 rfl) ?_
        refine AOps.val (Gv.assign (v := .bool _) rfl) ?_
        refine AOps.nil ?_
        refine AWP.ret ?_
        repeat (first | refine aseqQ_ret ?_ | refine ablockQ_ret ?_)
        refine afin.t1 (x := .bool _) rfl ?_
        exact jb (by simp_all [termOK] <;> grind)
    · skip
      refine AOps.guardFd rfl rfl c15 ?_
      refine AOps.guardFd rfl rfl c15 ?_
      refine AOps.guardFd rfl rfl c15 ?_
      refine AOps.guardFd rfl rfl c15 ?_
      refine AOps.val (Gv.pickF (v := .bool _) rfl c15 rfl) ?_
      refine AOps.val (Gv.move (v := .bool _) rfl) ?_
      refine AOps.guardFd rfl rfl rfl ?_
      refine AOps.guardFd rfl rfl rfl ?_
      refine AOps.guardFd rfl rfl rfl ?_
      refine AOps.val (Gv.pickF (v := .bool _) rfl rfl rfl) ?_
      refine AOps.val (Gv.assign (v := .bool _) rfl) ?_
      refine AOps.nil ?_
      refine AWP.ret ?_
      repeat (first | refine aseqQ_ret ?_ | refine ablockQ_ret ?_)
      refine afin.t1 (x := .bool _) rfl ?_
      exact jb (by simp_all [termOK] <;> grind)
  · skip
    refine AWP.seq ?_
    refine AWP.region rfl ?_
    refine AOps.val (Gv.eqlI rfl rfl) ?_
    refine AOps.val (Gv.assign (v := .bool _) rfl) ?_
    refine AOps.nil ?_
    refine AWP.cond rfl (fun c17 => ?_) (fun c17 => ?_)
    · skip
      refine AWP.seq ?_
      refine AWP.region rfl ?_
      refine AOps.val (Gv.loadWF Tryz.isAgg27 Tryz.sizeOf27 rfl rfl) ?_
      refine AOps.val (Gv.fieldF Tryz.underlying46 rfl Tryz.sizeOf3 (by decide) rfl rfl) ?_
      refine AOps.val (Gv.load1F (c := .int _ _) Tryz.isAgg3 rfl) ?_
      refine AOps.callP (has_spec _ _) rfl ?_
      refine AOps.val (Gv.move (v := .bool _) rfl) ?_
      refine AOps.case (s := 31) rfl (fun c18 => ?_) (fun c18 => ?_)
      · skip
        refine AOps.guardT rfl rfl c18 ?_
        refine AOps.val (Gv.loadWF Tryz.isAgg27 Tryz.sizeOf27 rfl rfl) ?_
        refine AOps.guardT rfl rfl c18 ?_
        refine AOps.val (Gv.fieldF Tryz.underlying46 rfl Tryz.sizeOf44 (by decide) rfl rfl) ?_
        refine AOps.guardT rfl rfl c18 ?_
        refine AOps.val (Gv.idxAF (j := 0) Tryz.underlying44 Tryz.sizeOf3 rfl rfl rfl (by decide) rfl) ?_
        refine AOps.guardT rfl rfl c18 ?_
        refine AOps.val (Gv.load1F (c := .int _ _) Tryz.isAgg3 rfl) ?_
        refine AOps.guardT rfl rfl c18 ?_
        refine AOps.callP (at_spec _ _) rfl ?_
        refine AOps.val (Gv.pickT (v := .bool _) rfl c18 rfl) ?_
        refine AOps.val (Gv.move (v := .bool _) rfl) ?_
        refine AOps.case (s := 38) rfl (fun c19 => ?_) (fun c19 => ?_)
        · skip
          refine AOps.guardT rfl rfl c19 ?_
          refine AOps.val (Gv.loadWF Tryz.isAgg27 Tryz.sizeOf27 rfl rfl) ?_
          refine AOps.guardT rfl rfl c19 ?_
          refine AOps.val (Gv.fieldF Tryz.underlying46 rfl Tryz.sizeOf44 (by decide) rfl rfl) ?_
          refine AOps.guardT rfl rfl c19 ?_
          refine AOps.val (Gv.idxAF (j := 1) Tryz.underlying44 Tryz.sizeOf3 rfl rfl rfl (by decide) rfl) ?_
          refine AOps.guardT rfl rfl c19 ?_
          refine AOps.val (Gv.load1F (c := .int _ _) Tryz.isAgg3 rfl) ?_
          refine AOps.guardT rfl rfl c19 ?_
          refine AOps.callP (at_spec _ _) rfl ?_
          refine AOps.val (Gv.pickT (v := .bool _) rfl c19 rfl) ?_
          refine AOps.val (Gv.assign (v := .bool _) rfl) ?_
          refine AOps.nil ?_
          refine AWP.ret ?_
          repeat (first | refine aseqQ_ret ?_ | refine ablockQ_ret ?_)
          refine afin.t1 (x := .bool _) rfl ?_
          exact jb (by simp_all [termOK] <;> grind)
        · skip
          refine AOps.guardFd rfl rfl c19 ?_
          refine AOps.guardFd rfl rfl c19 ?_
          refine AOps.guardFd rfl rfl c19 ?_
          refine AOps.guardFd rfl rfl c19 ?_
          refine AOps.guardFd rfl rfl c19 ?_
          refine AOps.val (Gv.pickF (v := .bool _) rfl c19 rfl) ?_
          refine AOps.val (Gv.assign (v := .bool _) rfl) ?_
          refine AOps.nil ?_
          refine AWP.ret ?_
          repeat (first | refine aseqQ_ret ?_ | refine ablockQ_ret ?_)
          refine afin.t1 (x := .bool _) rfl ?_
          exact jb (by simp_all [termOK] <;> grind)
      · skip
        refine AOps.guardFd rfl rfl c18 ?_
        refine AOps.guardFd rfl rfl c18 ?_
        refine AOps.guardFd rfl rfl c18 ?_
        refine AOps.guardFd rfl rfl c18 ?_
        refine AOps.guardFd rfl rfl c18 ?_
        refine AOps.val (Gv.pickF (v := .bool _) rfl c18 rfl) ?_
        refine AOps.val (Gv.move (v := .bool _) rfl) ?_
        refine AOps.guardFd rfl rfl rfl ?_
        refine AOps.guardFd rfl rfl rfl ?_
        refine AOps.guardFd rfl rfl rfl ?_
        refine AOps.guardFd rfl rfl rfl ?_
        refine AOps.guardFd rfl rfl rfl ?_
        refine AOps.val (Gv.pickF (v := .bool _) rfl rfl rfl) ?_
        refine AOps.val (Gv.assign (v := .bool _) rfl) ?_
        refine AOps.nil ?_
        refine AWP.ret ?_
        repeat (first | refine aseqQ_ret ?_ | refine ablockQ_ret ?_)
        refine afin.t1 (x := .bool _) rfl ?_
        exact jb (by simp_all [termOK] <;> grind)
    · skip
      refine AWP.seq ?_
      refine AWP.region rfl ?_
      refine AOps.val (Gv.eqlI rfl rfl) ?_
      refine AOps.val (Gv.assign (v := .bool _) rfl) ?_
      refine AOps.nil ?_
      refine AWP.cond rfl (fun c20 => ?_) (fun c20 => ?_)
      · skip
        refine AWP.seq ?_
        refine AWP.region rfl ?_
        refine AOps.val (Gv.loadWF Tryz.isAgg27 Tryz.sizeOf27 rfl rfl) ?_
        refine AOps.val (Gv.fieldF Tryz.underlying46 rfl Tryz.sizeOf3 (by decide) rfl rfl) ?_
        refine AOps.val (Gv.load1F (c := .int _ _) Tryz.isAgg3 rfl) ?_
        refine AOps.callP (has_spec _ _) rfl ?_
        refine AOps.val (Gv.move (v := .bool _) rfl) ?_
        refine AOps.case (s := 51) rfl (fun c21 => ?_) (fun c21 => ?_)
        · skip
          refine AOps.guardT rfl rfl c21 ?_
          refine AOps.val (Gv.fieldF Tryz.underlying46 rfl Tryz.sizeOf44 (by decide) rfl rfl) ?_
          refine AOps.guardT rfl rfl c21 ?_
          refine AOps.val (Gv.loadWF Tryz.isAgg44 Tryz.sizeOf44 rfl rfl) ?_
          refine AOps.guardT rfl rfl c21 ?_
          refine AOps.val (Gv.buildA (cps := []) (rs := [.int .i64 0, .int .i64 0]) pl44 rfl rfl rfl) ?_
          refine AOps.guardT rfl rfl c21 ?_
          refine AOps.val (Gv.eqlP (xs := [.int _ _, .int _ _]) (ys := [.int _ _, .int _ _]) (by kernel_rfl) rfl rfl (fun w => eq_arr10 _ _ _ _ w)) ?_
          refine AOps.val (Gv.pickT (v := .bool _) rfl c21 rfl) ?_
          refine AOps.val (Gv.assign (v := .bool _) rfl) ?_
          refine AOps.nil ?_
          refine AWP.ret ?_
          repeat (first | refine aseqQ_ret ?_ | refine ablockQ_ret ?_)
          refine afin.t1 (x := .bool _) rfl ?_
          exact jb (by simp_all [termOK] <;> grind)
        · skip
          refine AOps.guardFd rfl rfl c21 ?_
          refine AOps.guardFd rfl rfl c21 ?_
          refine AOps.guardFd rfl rfl c21 ?_
          refine AOps.guardFd rfl rfl c21 ?_
          refine AOps.val (Gv.pickF (v := .bool _) rfl c21 rfl) ?_
          refine AOps.val (Gv.assign (v := .bool _) rfl) ?_
          refine AOps.nil ?_
          refine AWP.ret ?_
          repeat (first | refine aseqQ_ret ?_ | refine ablockQ_ret ?_)
          refine afin.t1 (x := .bool _) rfl ?_
          exact jb (by simp_all [termOK] <;> grind)
      · skip
        refine AWP.skip ?_
        refine AWP.seq ?_
        refine AWP.region rfl ?_
        refine AOps.val (Gv.assign (v := .bool _) rfl) ?_
        refine AOps.nil ?_
        refine AWP.ret ?_
        repeat (first | refine aseqQ_ret ?_ | refine ablockQ_ret ?_)
        refine afin.t1 (x := .bool _) rfl ?_
        exact jb (by simp_all [termOK] <;> grind)
def joinS (ws : List ByteArray) (sep : ByteArray) : ByteArray := ⟨(Lib.join (ws.map (·.data.toList)) sep.data.toList).toArray⟩
def encS (s : ByteArray) : List AV := [.str s]
theorem join_spec (ws : List ByteArray) (sep : ByteArray) (hN : ws.length ≤ 140737488355328) (hlen : (Lib.join (ws.map (·.data.toList)) sep.data.toList).length ≤ 140737488355328) :
    AFun Tryz.prog E 31 [.fro 1 (ws.map encS), .str sep] (.str (joinS ws sep)) := fun I F w vs h1 h2 => by
  obtain ⟨v, us, rfl, ⟨a, n, c, rfl, hn, hc, hnil, hr⟩, v2, us2, rfl, h3, h4⟩ := h1
  have h3 : v2 = .string sep := h3
  have h4 : us2 = [] := h4
  subst h3 h4
  obtain ⟨ht, L, hL, hS⟩ := h2
  have hL : L = [] := hL
  subst hL
  rw [List.length_map] at hn
  refine Fn.ofCalls Tryz.func31 rfl (by decide) ?_
  cases ws with
  | nil =>
    subst hn
    exact (Tryz.strings_Join_none a c sep w).mono fun e w' ⟨he, hw⟩ => ⟨_, he, I, .str (joinS [] sep), [], .refl _, rfl, ⟨ht, [], rfl, hw ▸ hS⟩, rfl⟩
  | cons x ws =>
    subst hn
    have hcell : ∀ (b off : Nat), a = some ⟨b, off, none⟩ → ∀ (j : Nat) y, (x :: ws)[j]? = some y → w.cell? ⟨b, off + j, none⟩ = some (.string y) := by
      intro b off ha j y hj
      obtain ⟨b', off', l, ha', hk', hl', hat'⟩ := hr.get (j := j) (r := encS y) (by rw [List.getElem?_map, hj]; rfl)
      rw [ha] at ha'
      cases ha'
      obtain ⟨u, l2, rfl, hu, _⟩ := hl'
      have hu : u = .string y := hu
      subst hu
      have := hS.at_ ((hat' 0 _ rfl).at_ _)
      simpa using this
    obtain ⟨b, off, l, ha, _⟩ := hr.get (j := 0) (r := encS x) rfl
    subst ha
    refine (Tryz.strings_Join b off c (x :: ws) sep w (hcell b off rfl) ?_ hN hc hlen).mono fun e w' ⟨he, hb⟩ => ⟨_, he, I, .str (joinS (x :: ws) sep), [], .refl _, rfl, ⟨ht, [], rfl, hS.below hb⟩, rfl⟩
    by_cases hb : b < w.heap.size
    · exact hb
    · have hat0 := hcell b off rfl 0 x rfl
      simp [World.cell?, Array.getElem?_eq_none (by omega : w.heap.size ≤ b)] at hat0
def Pows (E : World) : Prop := Lib.TabIs Tryz.prog E "internal/strconv.uint64pow10" .u64 Lib.pow10Tab
theorem tab_up {P : Program} {name : String} {k : IntKind} {zs : List Int} {I : Ghost} {O : List (Nat × Obj)} {w : World} (h : Lib.TabIs P E name k zs) (hS : SL I O E w) : Lib.TabIs P w name k zs := by
  unfold Lib.TabIs World.var? at *
  cases hg : P.globalNamed name with
  | none => rw [hg] at h; cases h
  | some g =>
    rw [hg] at h
    simp only [Option.bind_some] at h ⊢
    cases hh : E.heap[g]? with
    | none => rw [hh] at h; cases h
    | some o => rw [hh] at h; rw [hS.pers _ _ (hS.base _ _ hh)]; exact h
theorem formatInt_spec (n : Int) (hn : -9223372036854775808 ≤ n ∧ n ≤ 9223372036854775807) (hT : Pows E) : AFun Tryz.prog E 59 [.int .i64 n, .int .i64 10] (.str ⟨(Lib.itoa n).toArray⟩) := fun I F w vs h1 h2 => by
  obtain ⟨v, us, rfl, h3, v2, us2, rfl, h4, h5⟩ := h1
  have h3 : v = .int .i64 n := h3
  have h4 : v2 = .int .i64 10 := h4
  have h5 : us2 = [] := h5
  subst h3 h4 h5
  obtain ⟨ht, L, hL, hS⟩ := h2
  have hL : L = [] := hL
  subst hL
  refine Fn.ofCalls Tryz.func59 rfl (by decide) ?_
  exact (Tryz.strconv_FormatInt_10 n hn.1 hn.2 w (tab_up hT hS)).mono fun e w' ⟨he, k, os, hw⟩ => ⟨_, he, I, .str ⟨(Lib.itoa n).toArray⟩, [], .refl _, rfl, ⟨ht, [], rfl, by
    subst hw
    exact hS.more rfl rfl rfl (fun k hk => Array.getElem?_append_left hk)⟩, rfl⟩
def vname (f : PFunc) (v : Int) : ByteArray := (f.vars[v.toNat]?.map (·.name)).getD ⟨#[]⟩
def words1 (f : PFunc) (x : PInst) : List ByteArray := if 0 ≤ x.dst then [vname f x.dst, ⟨#[61]⟩] else []
def words2 (f : PFunc) (x : PInst) (k : Nat) : List ByteArray := words1 f x ++ [(kRow x.op).1] ++ (x.args.take k).map (vname f)
def wordsOf (f : PFunc) (x : PInst) : List ByteArray := words2 f x x.args.length ++ (if isNum x.op then [⟨(Lib.itoa x.num).toArray⟩] else [])
theorem words1_len (f : PFunc) (x : PInst) : (words1 f x).length ≤ 2 := by unfold words1; split <;> simp
theorem words2_len (f : PFunc) (x : PInst) (k : Nat) : (words2 f x k).length ≤ 3 + k := by
  have := words1_len f x
  unfold words2; simp; omega
theorem words2_succ (f : PFunc) (x : PInst) {k : Nat} (h : k < x.args.length) : words2 f x (k + 1) = words2 f x k ++ [vname f x.args[k]] := by
  unfold words2; rw [List.take_succ_eq_append_getElem h, List.map_append]; simp only [List.append_assoc]; rfl
def instLine (f : PFunc) (x : PInst) : ByteArray := if instOK f x then joinS (wordsOf f x) ⟨#[32]⟩ else ⟨#[]⟩
theorem has_get {f : PFunc} {v : Int} (h : hasV f v = true) : ∃ (h : v.toNat < f.vars.length), f.vars[v.toNat]? = some f.vars[v.toNat] ∧ 0 ≤ v ∧ vname f v = f.vars[v.toNat].name := by
  have h2 : 0 ≤ v ∧ v < f.vars.length := by simpa [hasV] using h
  have h3 : v.toNat < f.vars.length := by omega
  exact ⟨h3, List.getElem?_eq_getElem h3, h2.1, by unfold vname; rw [List.getElem?_eq_getElem h3]; rfl⟩
theorem joinTail_len (m : Nat) (r : List (List UInt8)) (hm : ∀ x ∈ r, x.length ≤ m) : (Lib.joinTail [32] r).length ≤ r.length * (m + 1) := by
  induction r with
  | nil => simp [Lib.joinTail]
  | cons x r ih =>
    have h1 := ih (fun y hy => hm y (.tail _ hy))
    have h2 := hm x (.head _)
    have h3 : Lib.joinTail [32] (x :: r) = [32] ++ x ++ Lib.joinTail [32] r := rfl
    rw [h3, List.length_append, List.length_append, List.length_cons, List.length_cons, Nat.add_mul]
    simp only [List.length_nil]
    omega
theorem join_len (ws : List ByteArray) (m : Nat) (hm : ∀ x ∈ ws, x.size ≤ m) : (Lib.join (ws.map (·.data.toList)) [32]).length ≤ ws.length * (m + 1) := by
  cases ws with
  | nil => simp [Lib.join_nil]
  | cons x r =>
    rw [List.map_cons, Lib.join_cons, List.length_append]
    have h1 := joinTail_len m (r.map (·.data.toList)) (by
      intro y hy; obtain ⟨z, hz, rfl⟩ := List.mem_map.1 hy
      exact hm z (.tail _ hz))
    have h2 : x.data.toList.length ≤ m := hm x (.head _)
    rw [List.length_map] at h1
    rw [List.length_cons, Nat.add_mul]
    omega
theorem word_len (op : Int) : (kRow op).1.size ≤ 6 := by
  rcases kRow_mem op with h | h
  · rw [h]; decide
  · have : ∀ r ∈ kindT, r.1.size ≤ 6 := by decide
    exact this _ h
theorem vname_len {f : PFunc} (hnm : ∀ v ∈ f.vars, v.name.size ≤ 1000) (v : Int) : (vname f v).size ≤ 1000 := by
  unfold vname
  cases h : f.vars[v.toNat]? with
  | none => exact (by decide : (⟨#[]⟩ : ByteArray).size ≤ 1000)
  | some x => exact hnm x (List.mem_of_getElem? h)
theorem words_len {f : PFunc} {x : PInst} (hnm : ∀ v ∈ f.vars, v.name.size ≤ 1000) (hI : isNum x.op = true → -9223372036854775808 ≤ x.num ∧ x.num ≤ 9223372036854775807) : ∀ s ∈ wordsOf f x, s.size ≤ 1000 := by
  intro s hs
  unfold wordsOf words2 words1 at hs
  simp only [List.mem_append] at hs
  rcases hs with ((hs | hs) | hs) | hs
  · split at hs
    · simp only [List.mem_cons, List.not_mem_nil, or_false] at hs
      rcases hs with rfl | rfl
      · exact vname_len hnm _
      · decide
    · cases hs
  · rw [List.mem_singleton.1 hs]; have := word_len x.op; omega
  · obtain ⟨v, _, rfl⟩ := List.mem_map.1 hs; exact vname_len hnm _
  · split at hs
    · rename_i hn
      rw [List.mem_singleton.1 hs]
      have := Lib.itoa_length_le x.num (hI hn).1 (hI hn).2
      show (List.toArray _).size ≤ _
      rw [List.size_toArray]; omega
    · cases hs
theorem Inst_spec (f : PFunc) (x : PInst) (hbd : x.args.length ≤ 1000) (hnm : ∀ v ∈ f.vars, v.name.size ≤ 1000) (hI : isNum x.op = true → -9223372036854775808 ≤ x.num ∧ x.num ≤ 9223372036854775807) (hT : Pows E) :
    AFun Tryz.prog E 28 [.agg (encF f), .agg (encInst x)] (.str (instLine f x)) := by
  have hx : okL x.args := by unfold okL; omega
  refine ACall.intro Tryz.func28 rfl (by decide) rfl ?_
  refine AWP.seq ?_
  refine AWP.region rfl ?_
  refine AOps.boxF (cs := _) rfl rfl rfl ?_
  refine AOps.boxF (cs := _) rfl rfl rfl ?_
  refine AOps.val (Gv.assign (v := .str _) rfl) ?_
  refine AOps.nil ?_
  refine AWP.seq ?_
  refine AWP.seq ?_
  refine AWP.region rfl ?_
  refine AOps.val (Gv.loadWF Tryz.isAgg27 Tryz.sizeOf27 rfl rfl) ?_
  refine AOps.val (Gv.loadWF Tryz.isAgg67 Tryz.sizeOf67 rfl rfl) ?_
  refine AOps.callP (inst_spec _ _ (by assumption)) rfl ?_
  refine AOps.val (Gv.not rfl) ?_
  refine AOps.nil ?_
  refine AWP.cond rfl (fun cok => ?_) (fun cok => ?_)
  · skip
    have hok : instOK f x = false := by simpa using cok
    refine AWP.seq ?_
    refine AWP.region rfl ?_
    refine AOps.val (Gv.assign (v := .str _) rfl) ?_
    refine AOps.nil ?_
    refine AWP.ret ?_
    repeat (first | refine aseqQ_ret ?_ | refine ablockQ_ret ?_)
    refine afin.t1 (x := .str _) rfl ?_
    unfold instLine; rw [hok]; rfl
  · skip
    have hok : instOK f x = true := by simpa using cok
    obtain ⟨hi1, hi2⟩ : inst1 f x = false ∧ inst2 f x = false := by unfold instOK at hok; simp at hok; exact ⟨hok.1.1, hok.1.2⟩
    have hall : x.args.all (hasV f) = true := by unfold inst1 at hi1; simp at hi1; simpa using hi1.2
    have hdst : 0 ≤ x.dst → hasV f x.dst = true := by
      intro h; unfold inst2 at hi2
      cases hm : makesB x.op
      · simp [hm] at hi2; omega
      · simpa [hm] using hi2
    refine AWP.skip ?_
    refine AWP.seq ?_
    refine AWP.region rfl ?_
    refine AOps.val (Gv.assign (v := .raw _) rfl) ?_
    refine AOps.nil ?_
    refine adopt_wp (t := 5) (k := 1) (T := 9) rfl ?_
    intro i5
    refine AWP.seq ?_
    refine AWP.seq ?_
    refine AWP.region rfl ?_
    refine AOps.val (Gv.fieldF Tryz.underlying67 rfl Tryz.sizeOf3 (by decide) rfl rfl) ?_
    refine AOps.val (Gv.load1F (c := .int _ _) Tryz.isAgg3 rfl) ?_
    refine AOps.val (Gv.geq rfl rfl) ?_
    refine AOps.nil ?_
    refine AWP.cutS (γ := Nat) [2, 3] (fun i => [(5, .own i (words1 f x).length)]) (fun i => [(i, .grow 1 9 ((words1 f x).map encS).flatten)]) (fun i => True) ?_ (fun _ _ h => h) ?_
    · skip
      refine AWP.condP rfl (fun cd => ?_) (fun cd => ?_)
      · skip
        obtain ⟨hlt, hg, hnn, hvn⟩ := has_get (hdst cd)
        refine AWP.region rfl ?_
        refine AOps.val (Gv.move (v := .own _ _) rfl) ?_
        refine AOps.val (Gv.fieldF Tryz.underlying27 rfl Tryz.sizeOf23 (by decide) rfl rfl) ?_
        refine AOps.val (Gv.load1F (c := .fro _ _) Tryz.isAgg23 rfl) ?_
        refine AOps.val (Gv.fieldF Tryz.underlying67 rfl Tryz.sizeOf3 (by decide) rfl rfl) ?_
        refine AOps.val (Gv.load1F (c := .int _ _) Tryz.isAgg3 rfl) ?_
        refine AOps.val (Gv.idxM (j := x.dst.toNat) Tryz.underlying23 Tryz.sizeOf38 rfl rfl (Int.toNat_of_nonneg hnn).symm hg) ?_
        refine AOps.val (Gv.fieldF Tryz.underlying38 rfl Tryz.sizeOf9 (by decide) rfl rfl) ?_
        refine AOps.val (Gv.load1F (c := .str _) Tryz.isAgg9 rfl) ?_
        refine AOps.buildSliceFF (rows := [[_], [_]]) ps62_2 rfl rfl rfl rfl rfl ?_
        refine AOps.appendS (k := 1) Tryz.underlying62 Tryz.type9 rfl rfl rfl rfl rfl (fun _ => .head) (by simp) (by decide) rfl (by show (_ + _) * 16 ≤ _; simp <;> omega) (by simp <;> omega) ?_
        intro i24
        refine AOps.val (Gv.assign (v := .own _ _) rfl) ?_
        refine AOps.nil ?_
        exact ⟨i24, ⟨rfl, rfl, trivial⟩, ⟨by rw [words1, if_pos cd]; rfl, trivial⟩, ⟨_, (.refl _), by rw [words1, if_pos cd, hvn]; rfl⟩, trivial⟩
      · skip
        refine AWP.skip ?_
        exact ⟨i5, ⟨rfl, rfl, trivial⟩, ⟨by rw [words1, if_neg cd]; rfl, trivial⟩, ⟨_, (.refl _), by rw [words1, if_neg cd]; rfl⟩, trivial⟩
    · skip
      rintro i _
      have hl1 := words1_len f x
      refine AWP.seq ?_
      refine AWP.region rfl ?_
      refine AOps.val (Gv.move (v := .own _ _) rfl) ?_
      refine AOps.val (Gv.fieldF Tryz.underlying67 rfl Tryz.sizeOf65 (by decide) rfl rfl) ?_
      refine AOps.val (Gv.load1F (c := .int _ _) Tryz.isAgg65 rfl) ?_
      refine AOps.callP (word_spec _) rfl ?_
      refine AOps.buildSliceFF (rows := [[_]]) ps62_1 rfl rfl rfl rfl rfl ?_
      refine AOps.appendS (k := 1) Tryz.underlying62 Tryz.type9 rfl rfl rfl rfl rfl (fun _ => .head) (by rw [grow_len (k := 1) (fun _ => rfl)]) (by decide) rfl (by show (_ + 1) * 16 ≤ _; omega) (by show _ + 1 ≤ _; omega) ?_
      intro i30
      refine AOps.val (Gv.assign (v := .own _ _) rfl) ?_
      refine AOps.nil ?_
      refine AWP.seq ?_
      refine AWP.seq ?_
      refine AWP.region rfl ?_
      refine AOps.val (Gv.fieldF Tryz.underlying67 rfl Tryz.sizeOf24 (by decide) rfl rfl) ?_
      refine AOps.val (Gv.load1F (c := .fro _ _) Tryz.isAgg24 rfl) ?_
      refine AOps.val (Gv.lenM Tryz.underlying24 rfl) ?_
      refine AOps.val (Gv.move (v := .int _ _) rfl) ?_
      refine AOps.nil ?_
      refine AWP.block ?_
      refine AWP.loop (γ := Nat × Nat) [2, 3, 32, 33] (fun g => [(5, .own g.2 (words2 f x g.1).length), (34, .int .i64 g.1)]) (fun g => [(g.2, .grow 1 9 ((words2 f x g.1).map encS).flatten)]) (fun g => g.1 ≤ x.args.length) (fun g => x.args.length - g.1) (0, i30) ⟨congrArg (AV.own i30) (by simp [words2]), rfl, trivial⟩ ⟨_, (.refl _), by rw [← grow_push (enc := encS) (ys := words2 f x 0) (xs := words1 f x) (x := (kRow x.op).1) (by simp [words2])]; rfl⟩ (Nat.zero_le _) ?_
      rintro ⟨k, i⟩ hk
      try dsimp only at *
      have hl2 := words2_len f x k
      refine AWP.seq ?_
      refine AWP.region rfl ?_
      refine AOps.val (Gv.lss rfl rfl) ?_
      refine AOps.nil ?_
      refine AWP.seq ?_
      refine AWP.condP rfl (fun ck => ?_) (fun ck => ?_)
      · skip
        have hk2 : k < x.args.length := by omega
        have hh := (List.all_eq_true.1 hall) _ (List.getElem_mem hk2)
        obtain ⟨hlt, hg, hnn, hvn⟩ := has_get hh
        refine AWP.skip ?_
        refine AWP.seq ?_
        refine AWP.block ?_
        refine AWP.seq ?_
        refine AWP.region rfl ?_
        refine AOps.val (Gv.idxM Tryz.underlying24 Tryz.sizeOf3 rfl rfl rfl (List.getElem?_eq_getElem (by omega))) ?_
        refine AOps.val (Gv.load1F (c := .int _ _) Tryz.isAgg3 rfl) ?_
        refine AOps.val (Gv.assign (v := .int _ _) rfl) ?_
        refine AOps.nil ?_
        refine AWP.region rfl ?_
        refine AOps.val (Gv.move (v := .own _ _) rfl) ?_
        refine AOps.val (Gv.fieldF Tryz.underlying27 rfl Tryz.sizeOf23 (by decide) rfl rfl) ?_
        refine AOps.val (Gv.load1F (c := .fro _ _) Tryz.isAgg23 rfl) ?_
        refine AOps.val (Gv.move (v := .int _ _) rfl) ?_
        refine AOps.val (Gv.idxM (j := (x.args[k]).toNat) Tryz.underlying23 Tryz.sizeOf38 rfl rfl (Int.toNat_of_nonneg hnn).symm hg) ?_
        refine AOps.val (Gv.fieldF Tryz.underlying38 rfl Tryz.sizeOf9 (by decide) rfl rfl) ?_
        refine AOps.val (Gv.load1F (c := .str _) Tryz.isAgg9 rfl) ?_
        refine AOps.buildSliceFF (rows := [[_]]) ps62_1 rfl rfl rfl rfl rfl ?_
        refine AOps.appendS (k := 1) Tryz.underlying62 Tryz.type9 rfl rfl rfl rfl rfl (fun _ => .head) (by rw [grow_len (k := 1) (fun _ => rfl)]) (by decide) rfl (by show (_ + 1) * 16 ≤ _; omega) (by show _ + 1 ≤ _; omega) ?_
        intro i46
        refine AOps.val (Gv.assign (v := .own _ _) rfl) ?_
        refine AOps.nil ?_
        refine AWP.region rfl ?_
        refine AOps.val (Gv.add rfl rfl (by unfold I64; omega)) ?_
        refine AOps.val (Gv.move (v := .int _ _) rfl) ?_
        refine AOps.nil ?_
        exact ⟨(k + 1, i46), ⟨rfl, rfl, rfl, rfl, trivial⟩, ⟨congrArg (AV.own i46) (by rw [words2_succ f x hk2]; simp), rfl, trivial⟩, ⟨_, (.refl _), by rw [← grow_push (enc := encS) (words2_succ f x hk2), hvn]; rfl⟩, hk2, by simp only; omega⟩
      · skip
        have hkn : k = x.args.length := by omega
        subst hkn
        refine AWP.exit ?_
        refine AWP.seq ?_
        refine AWP.seq ?_
        refine AWP.region rfl ?_
        refine AOps.val (Gv.fieldF Tryz.underlying67 rfl Tryz.sizeOf65 (by decide) rfl rfl) ?_
        refine AOps.val (Gv.load1F (c := .int _ _) Tryz.isAgg65 rfl) ?_
        refine AOps.callP (numbered_spec _) rfl ?_
        refine AOps.nil ?_
        refine AWP.cutS (γ := Nat) [] (fun i => [(5, .own i (wordsOf f x).length)]) (fun i => [(i, .grow 1 9 ((wordsOf f x).map encS).flatten)]) (fun i => True) ?_ (fun _ _ h => h) ?_
        · skip
          refine AWP.cond rfl (fun cn => ?_) (fun cn => ?_)
          · skip
            have hw : wordsOf f x = words2 f x x.args.length ++ [⟨(Lib.itoa x.num).toArray⟩] := by unfold wordsOf; rw [if_pos cn]
            refine AWP.region rfl ?_
            refine AOps.val (Gv.move (v := .own _ _) rfl) ?_
            refine AOps.val (Gv.fieldF Tryz.underlying67 rfl Tryz.sizeOf2 (by decide) rfl rfl) ?_
            refine AOps.val (Gv.load1F (c := .int _ _) Tryz.isAgg2 rfl) ?_
            refine AOps.callP (formatInt_spec _ (hI cn) hT) rfl ?_
            refine AOps.buildSliceFF (rows := [[_]]) ps62_1 rfl rfl rfl rfl rfl ?_
            refine AOps.appendS (k := 1) Tryz.underlying62 Tryz.type9 rfl rfl rfl rfl rfl (fun _ => .head) (by rw [grow_len (k := 1) (fun _ => rfl)]) (by decide) rfl (by show (_ + 1) * 16 ≤ _; omega) (by show _ + 1 ≤ _; omega) ?_
            intro i56
            refine AOps.val (Gv.assign (v := .own _ _) rfl) ?_
            refine AOps.nil ?_
            exact ⟨i56, trivial, ⟨congrArg (AV.own i56) (by rw [hw]; simp), trivial⟩, ⟨_, (.refl _), by rw [← grow_push (enc := encS) hw]; rfl⟩, trivial⟩
          · skip
            have hw : wordsOf f x = words2 f x x.args.length := by unfold wordsOf; rw [if_neg (by simp [cn]), List.append_nil]
            refine AWP.skip ?_
            exact ⟨i, trivial, ⟨congrArg (AV.own i) (by rw [hw]), trivial⟩, ⟨_, (.refl _), by rw [hw]⟩, trivial⟩
        · skip
          rintro i _
          have hlw := words2_len f x x.args.length
          have hlw2 : (wordsOf f x).length ≤ 1004 := by unfold wordsOf; rw [List.length_append]; split <;> simp <;> omega
          have hjl := join_len (wordsOf f x) 1000 (words_len hnm hI)
          have hjl2 : (wordsOf f x).length * (1000 + 1) ≤ 1004 * 1001 := Nat.mul_le_mul hlw2 (Nat.le_refl _)
          refine GStep.wp (GStep.know (t := 5) (rows := (wordsOf f x).map encS) rfl .head (by simp [encS]) (by decide) (by simp)) ?_
          refine AWP.seq ?_
          refine AWP.region rfl ?_
          refine AOps.val (Gv.move (v := .fro _ _) rfl) ?_
          refine AOps.callP (join_spec _ _ (by omega) (by show (Lib.join _ [32]).length ≤ _; omega)) rfl ?_
          refine AOps.val (Gv.assign (v := .str _) rfl) ?_
          refine AOps.nil ?_
          refine AWP.ret ?_
          repeat (first | refine aseqQ_ret ?_ | refine ablockQ_ret ?_)
          refine afin.t1 (x := .str _) rfl ?_
          unfold instLine; rw [hok]; rfl
end Go.Proofs.YtdkhlgiohpdihaaGreatDoor
