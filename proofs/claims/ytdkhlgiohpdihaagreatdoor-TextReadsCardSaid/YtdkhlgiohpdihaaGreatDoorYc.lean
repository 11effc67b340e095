/- What is new and shared with nobody: known by its own memory alone; a look at it; what becomes of it when it is changed. No conditions but bounds. -/
import Derived.Test.YtdkhlgiohpdihaaGreatDoorYb
import Derived.Shelf.Strings.Builder1
import Derived.Shelf.Strings.Builder2
import Derived.Shelf.Strings.OnBuilder
import Derived.Shelf.Strconv.Itoa0
import Derived.Shelf.Strconv.Itoa1
import Derived.Shelf.LaysM
import Derived.Shelf.Strconv.Itoa2
import Derived.Shelf.Strconv.Itoa3
import Derived.Shelf.Strconv.Itoa4
import Derived.Shelf.Strconv.ParseIntEmpty
import Derived.Shelf.Strconv.Clone
import Derived.Shelf.Strconv.SyntaxError
import Derived.Shelf.LaysC
import Derived.Shelf.Strconv.ToError
import Derived.Shelf.Strconv.Lower
import Derived.Shelf.Strconv.ParseUint10
import Derived.Shelf.Strconv.ParseUint10Empty
import Derived.Shelf.Strconv.ParseUint10Any
import Derived.Shelf.Strconv.ParseInt10
import Derived.Shelf.Strconv.RangeError
import Derived.Shelf.Strconv.ToErrorRange
import Derived.Shelf.Strconv.ParseUintEmpty
import Derived.Shelf.Strconv.ParseUint10b64
import Derived.Shelf.Strconv.ParseUint10b32
import Derived.Shelf.Strconv.ParseUint10b16
import Derived.Shelf.Strconv.ParseUint10b8
import Derived.Shelf.Strconv.ParseInt10At64
import Derived.Shelf.Strconv.ParseInt10All
import Derived.Shelf.Strconv.ParseIntPublic10
import Derived.Shelf.Strconv.ErrVarParseInt
import Derived.Shelf.Strings.Search1
import Derived.Shelf.Strings.Search2
import Derived.Shelf.Strings.Search3
import Derived.Shelf.Strings.Cut
import Derived.Shelf.Strings.Count
import Derived.Shelf.Strings.Shaped
import Derived.Shelf.Strings.Split
import Derived.Shelf.Strings.SplitShaped
import Derived.Shelf.Unicode.Props
import Derived.Shelf.Unicode.PropsLaid
import Derived.Shelf.Unicode.Decode
import Derived.Shelf.Strings.RuneCount
import Derived.Shelf.Strings.Explode
import Derived.Shelf.Unicode.DecodeSlow
import Derived.Shelf.Unicode.DecodeAny
import Derived.Shelf.Unicode.Is16White
import Derived.Shelf.Unicode.IsSpaceAny
import Derived.Shelf.Unicode.Is16WhiteD
import Derived.Shelf.Unicode.Is16Any
import Derived.Shelf.Unicode.Is32Any
import Derived.Shelf.Unicode.ExclAny
import Derived.Shelf.Unicode.PredsAny
import Derived.Shelf.Unicode.PredsPay
import Derived.Shelf.Unicode.ValidAny
import Derived.Test.YtdkhlgiohpdihaaGreatDoorChecked
import Derived.Lib.ItoaLen
import Derived.Laws.BytesArg
import Derived.ProofKit
import Derived.OpenShut
import Derived.Deep.Matrix
import Derived.Lib.LaidU8
import Derived.Lib.LaidTab
namespace Go.Proofs.YtdkhlgiohpdihaaGreatDoor
open Go.Proofs
theorem ps134_1 : PlacesS Tryz.prog 134 36 1 1 [.int .i64 0] := ⟨_, Tryz.underlying134, Tryz.sizeOf36, Tryz.zeroValue36, by decide, by decide, by kernel_rfl⟩
variable {E : World}
set_option maxRecDepth 20000
structure PVar where
  name : ByteArray
  ty : Int
deriving DecidableEq
structure PPhi where
  dst : Int
  args : List Int
  from_ : List Int
deriving DecidableEq
structure PInst where
  op : Int
  dst : Int
  args : List Int
  num : Int
deriving DecidableEq
structure PTerm where
  kind : Int
  var : Int
  to0 : Int
  to1 : Int
deriving DecidableEq
structure PBlock where
  name : ByteArray
  phis : List PPhi
  insts : List PInst
  term : PTerm
deriving DecidableEq
structure PFunc where
  vars : List PVar
  params : List Int
  blocks : List PBlock
deriving DecidableEq
def encI (x : Int) : List AV := [.int .i64 x]
def encVar (v : PVar) : List AV := [.str v.name, .int .i64 v.ty]
def encPhi (p : PPhi) : List AV := [.int .i64 p.dst, .fro 1 (p.args.map encI), .fro 1 (p.from_.map encI)]
def encInst (x : PInst) : List AV := [.int .i64 x.op, .int .i64 x.dst, .fro 1 (x.args.map encI), .int .i64 x.num]
def encBlk (b : PBlock) : List AV := [.str b.name, .fro 3 (b.phis.map encPhi), .fro 4 (b.insts.map encInst), .int .i64 b.term.kind, .int .i64 b.term.var, .int .i64 b.term.to0, .int .i64 b.term.to1]
def encF (f : PFunc) : List AV := [.fro 2 (f.vars.map encVar), .fro 1 (f.params.map encI), .fro 7 (f.blocks.map encBlk)]
theorem takes_spec (op : Int) : AFun Tryz.prog E 72 [.int .i64 op] (.fro 1 ((takesL op).map encI)) := by
  obtain ⟨hasc, _⟩ := kRow_ascii op
  have hl : (takesL op).length = (kRow op).2.1.size := by unfold takesL; rw [List.length_map]; exact Array.length_toList
  have hlen : (takesL op).length ≤ 3 := by
    rcases kRow_mem op with h | h
    · unfold takesL; rw [h]; decide
    · have : ∀ r ∈ kindT, r.2.1.data.toList.length ≤ 3 := by decide
      have := this _ h
      unfold takesL; simpa using this
  refine ACall.intro Tryz.func72 rfl (by decide) rfl ?_
  refine AWP.seq ?_
  refine AWP.region rfl ?_
  refine AOps.val (Gv.assign (v := .raw _) rfl) ?_
  refine AOps.nil ?_
  refine AWP.seq ?_
  refine AWP.region rfl ?_
  refine AOps.val (Gv.assign (v := .raw _) rfl) ?_
  refine AOps.nil ?_
  refine adopt_wp (t := 3) (k := 1) (T := 36) rfl ?_
  intro i3
  refine AWP.seq ?_
  refine AWP.seq ?_
  refine AWP.region rfl ?_
  refine AOps.val (Gv.move (v := .int _ _) rfl) ?_
  refine AOps.callP (of_spec _) rfl ?_
  refine AOps.val (Gv.field1 (v := .str _) Tryz.underlying158 rfl Tryz.isAgg9 rfl rfl) ?_
  refine AOps.rangeT Tryz.underlying9 rfl ?_
  intro i9
  refine AOps.nil ?_
  refine AWP.block ?_
  refine AWP.loop (γ := Nat × Nat) [9] (fun g => [(3, .own g.2 g.1)]) (fun g => [(i9, .iter (kRow op).2.1 g.1), (g.2, .grow 1 36 (((takesL op).take g.1).map encI).flatten)]) (fun g => g.1 ≤ (takesL op).length) (fun g => (takesL op).length - g.1) (0, i3) ⟨rfl, trivial⟩ ⟨_, (.refl _), rfl⟩ (Nat.zero_le _) ?_
  rintro ⟨p, i⟩ hp
  try dsimp only at *
  try simp only at hp
  by_cases hlt : p < (takesL op).length
  · skip
    have hb : p < (kRow op).2.1.data.toList.length := by rw [hl] at hlt; exact hlt
    have hg : (kRow op).2.1.data[p]? = some (kRow op).2.1.data.toList[p] := by rw [Array.getElem_toList]; exact Array.getElem?_eq_getElem hb
    refine AWP.seq ?_
    refine AWP.region rfl ?_
    refine AOps.nextA rfl hg (hasc _ (List.getElem_mem hb)) .head ?_
    refine AOps.val (Gv.extract (v := .bool _) rfl rfl) ?_
    refine AOps.nil ?_
    refine AWP.seq ?_
    refine AWP.condT rfl rfl ?_
    have ht : (takesL op).take (p + 1) = (takesL op).take p ++ [typeOf ((kRow op).2.1.data.toList[p]).toNat] := by
      rw [List.take_succ_eq_append_getElem hlt]
      have : (takesL op)[p] = typeOf ((kRow op).2.1.data.toList[p]).toNat := List.getElem_map _
      rw [this]
    refine AWP.skip ?_
    refine AWP.block ?_
    refine AWP.seq ?_
    refine AWP.region rfl ?_
    refine AOps.val (Gv.extract (v := .int _ _) rfl rfl) ?_
    refine AOps.val (Gv.assign (v := .int _ _) rfl) ?_
    refine AOps.nil ?_
    refine AWP.region rfl ?_
    refine AOps.val (Gv.move (v := .own _ _) rfl) ?_
    refine AOps.val (Gv.move (v := .int _ _) rfl) ?_
    refine AOps.callP (typed_spec _) rfl ?_
    refine AOps.buildSliceFF (rows := [[_]]) ps134_1 rfl rfl rfl rfl rfl ?_
    refine AOps.appendS (k := 1) Tryz.underlying134 Tryz.type36 rfl rfl rfl rfl rfl (fun _ => (.tail .head)) (by rw [grow_len (k := 1) (fun _ => rfl), List.length_take, Nat.min_eq_left hp]) (by decide) rfl (by show (_ + _) * 8 ≤ _; simp <;> omega) (by simp <;> omega) ?_
    intro i17
    refine AOps.val (Gv.assign (v := .own _ _) rfl) ?_
    refine AOps.nil ?_
    exact ⟨(p + 1, i17), ⟨rfl, trivial⟩, ⟨rfl, trivial⟩, ⟨_, (.refl _), by rw [← grow_push ht]; rfl⟩, hlt, by simp only; omega⟩
  · skip
    refine AWP.seq ?_
    refine AWP.region rfl ?_
    refine AOps.nextTover rfl .head (by rw [← hl]; exact hlt) ?_
    refine AOps.val (Gv.extract (v := .bool _) rfl rfl) ?_
    refine AOps.nil ?_
    refine AWP.seq ?_
    refine AWP.condF rfl rfl ?_
    have hkn : p = (takesL op).length := by omega
    subst hkn
    rw [List.take_length]
    refine AWP.exit ?_
    refine AWP.seq ?_
    refine AWP.region rfl ?_
    refine AOps.val (Gv.move (v := .own _ _) rfl) ?_
    refine AOps.val (Gv.assign (v := .own _ _) rfl) ?_
    refine AOps.nil ?_
    refine AWP.ret ?_
    repeat (first | refine aseqQ_ret ?_ | refine ablockQ_ret ?_)
    refine GStep.fin (GStep.know (t := 2) (rows := (takesL op).map encI) rfl (.tail .head) (by first | (intro r hr; obtain ⟨x, _, rfl⟩ := List.mem_map.1 hr; rfl) | simp [encI, encVar, encPhi, encInst, encBlk]) (by decide) (by simp)) ?_
    refine afin.t1 (x := .fro _ _) rfl ?_
    rfl
theorem makes_spec (op : Int) : AFun Tryz.prog E 71 [.int .i64 op] (.tup [.int .i64 (makesT op), .bool (makesB op)]) := by
  obtain ⟨_, hasc⟩ := kRow_ascii op
  refine ACall.intro Tryz.func71 rfl (by decide) rfl ?_
  refine AWP.seq ?_
  refine AWP.region rfl ?_
  refine AOps.val (Gv.assign (v := .int _ _) rfl) ?_
  refine AOps.val (Gv.assign (v := .bool _) rfl) ?_
  refine AOps.nil ?_
  refine AWP.seq ?_
  refine AWP.seq ?_
  refine AWP.region rfl ?_
  refine AOps.val (Gv.move (v := .int _ _) rfl) ?_
  refine AOps.callP (of_spec _) rfl ?_
  refine AOps.val (Gv.field1 (v := .str _) Tryz.underlying158 rfl Tryz.isAgg9 rfl rfl) ?_
  refine AOps.rangeT Tryz.underlying9 rfl ?_
  intro i9
  refine AOps.nil ?_
  refine AWP.block ?_
  refine AWP.loop (γ := Unit) [9] (fun g => []) (fun g => [(i9, .iter (kRow op).2.2 0)]) (fun g => True) (fun g => 0) () trivial ⟨_, (.refl _), rfl⟩ (trivial) ?_
  rintro _ _
  by_cases hlt : ∃ c0 tl, (kRow op).2.2.data.toList = c0 :: tl
  · skip
    obtain ⟨c0, tl, hk⟩ := hlt
    have hg : (kRow op).2.2.data[0]? = some c0 := by rw [← Array.getElem?_toList, hk]; rfl
    refine AWP.seq ?_
    refine AWP.region rfl ?_
    refine AOps.nextA rfl hg (hasc _ (by rw [hk]; exact .head _)) .head ?_
    refine AOps.val (Gv.extract (v := .bool _) rfl rfl) ?_
    refine AOps.nil ?_
    refine AWP.seq ?_
    refine AWP.condT rfl rfl ?_
    refine AWP.skip ?_
    refine AWP.block ?_
    refine AWP.seq ?_
    refine AWP.region rfl ?_
    refine AOps.val (Gv.extract (v := .int _ _) rfl rfl) ?_
    refine AOps.val (Gv.assign (v := .int _ _) rfl) ?_
    refine AOps.nil ?_
    refine AWP.seq ?_
    refine AWP.region rfl ?_
    refine AOps.val (Gv.move (v := .int _ _) rfl) ?_
    refine AOps.callP (typed_spec _) rfl ?_
    refine AOps.val (Gv.assign (v := .int _ _) rfl) ?_
    refine AOps.val (Gv.assign (v := .bool _) rfl) ?_
    refine AOps.nil ?_
    refine AWP.ret ?_
    repeat (first | refine aseqQ_ret ?_ | refine ablockQ_ret ?_)
    refine afin.t2 (x := .int _ _) (y := .bool _) rfl rfl ?_
    unfold makesT makesB; rw [hk]; rfl
  · skip
    have hk : (kRow op).2.2.data.toList = [] := by
      cases h : (kRow op).2.2.data.toList with
      | nil => rfl
      | cons x l => exact absurd ⟨x, l, h⟩ hlt
    refine AWP.seq ?_
    refine AWP.region rfl ?_
    refine AOps.nextTover rfl .head (by show ¬ 0 < (kRow op).2.2.data.size; rw [← Array.length_toList, hk]; decide) ?_
    refine AOps.val (Gv.extract (v := .bool _) rfl rfl) ?_
    refine AOps.nil ?_
    refine AWP.seq ?_
    refine AWP.condF rfl rfl ?_
    refine AWP.exit ?_
    refine AWP.seq ?_
    refine AWP.region rfl ?_
    refine AOps.val (Gv.assign (v := .int _ _) rfl) ?_
    refine AOps.val (Gv.assign (v := .bool _) rfl) ?_
    refine AOps.nil ?_
    refine AWP.ret ?_
    repeat (first | refine aseqQ_ret ?_ | refine ablockQ_ret ?_)
    refine afin.t2 (x := .int _ _) (y := .bool _) rfl rfl ?_
    unfold makesT makesB; rw [hk]; rfl
def hasV (f : PFunc) (v : Int) : Bool := decide (0 ≤ v) && decide (v < f.vars.length)
def hasB (f : PFunc) (b : Int) : Bool := decide (0 ≤ b) && decide (b < f.blocks.length)
def firstI {α : Type} (p : α → Bool) : List α → Nat → Int
  | [], _ => -1
  | x :: xs, k => if p x then k else firstI p xs (k + 1)
theorem firstI_ge {α : Type} (p : α → Bool) : ∀ (xs : List α) (k : Nat), decide (0 ≤ firstI p xs k) = xs.any p
  | [], k => rfl
  | x :: xs, k => by
    unfold firstI
    rw [List.any_cons]
    split
    · rename_i h; rw [h]; simp
    · rename_i h; simp [h, firstI_ge p xs (k + 1)]
theorem firstI_drop {α : Type} (p : α → Bool) : ∀ (xs : List α) (k : Nat), k ≤ xs.length → (xs.take k).all (fun x => !p x) = true → firstI p xs 0 = firstI p (xs.drop k) k
  | _, 0, _, _ => rfl
  | xs, k + 1, h, hall => by
    rw [List.take_succ_eq_append_getElem (by omega), List.all_append] at hall
    simp only [Bool.and_eq_true, List.all_cons, List.all_nil, Bool.and_true] at hall
    rw [firstI_drop p xs k (by omega) hall.1, List.drop_eq_getElem_cons (by omega)]
    rw [firstI]
    rw [if_neg (by simpa using hall.2)]
end Go.Proofs.YtdkhlgiohpdihaaGreatDoor
namespace Go.Proofs.YtdkhlgiohpdihaaGreatDoor
open Go.Proofs
variable {E : World}
set_option maxRecDepth 20000
def okL {α : Type} (l : List α) : Prop := l.length ≤ 140737488355328
def okPhi (p : PPhi) : Prop := okL p.args ∧ okL p.from_
def okBlk (b : PBlock) : Prop := okL b.phis ∧ okL b.insts ∧ (∀ p ∈ b.phis, okPhi p) ∧ (∀ x ∈ b.insts, okL x.args)
def okFunc (f : PFunc) : Prop := okL f.vars ∧ okL f.params ∧ okL f.blocks ∧ ∀ b ∈ f.blocks, okBlk b
theorem okL.lt {α : Type} {l : List α} (h : okL l) : l.length ≤ 140737488355328 := h
theorem jb {x y : Bool} (h : x = y) : AV.bool x = AV.bool y := congrArg AV.bool h
theorem eq_var (a c : ByteArray) (b d : Int) (w : World) : (Op.equalIn 10000 38 (.agg [.string a, .int .i64 b].toArray) (.agg [.string c, .int .i64 d].toArray)).run Tryz.prog w = .ok (decide (a = c ∧ b = d)) w := by
  have hS : Tryz.prog.underlying 38 = some (.struct (Tryz.prog.fieldsOf 38)) := by kernel_rfl
  have hp : Tryz.prog.stoodInHeld 38 = false := by kernel_rfl
  rw [show (10000 : Nat) = 9999 + 1 from rfl, run_equalIn_agg w 9999 _ _ _ hS hp]
  simp only [Program.fieldsOf, Tryz.underlying38]
  simp [Op.eqFields, part, Tryz.isAgg9, Tryz.isAgg36, run_equalIn_string, run_equalIn_int, Tryz.underlying9, Tryz.underlying36]
  have e := bytes_eq a c
  by_cases h1 : a = c
  · subst h1; by_cases h2 : b = d <;> simp [h2]
  · have h3 : ¬ a.toList = c.toList := by simpa [h1] using e
    simp [h1, h3]
theorem eq_arr (a b c d : Int) (w : World) (m : Nat) : (Op.equalIn (m + 2) 44 (.agg [.int .i64 a, .int .i64 b].toArray) (.agg [.int .i64 c, .int .i64 d].toArray)).run Tryz.prog w = .ok (decide (a = c ∧ b = d)) w := by
  rw [Op.equalIn]
  simp only [Sem.run_bind, run_underlying Tryz.underlying44, Result.andThen_ok]
  simp only [Std.Legacy.Range.forIn_eq_forIn_range', Std.Legacy.Range.size, Nat.sub_zero, Nat.add_sub_cancel, Nat.div_one, List.range'_succ, List.range'_zero, List.forIn_cons, List.forIn_nil]
  simp [part, Tryz.isAgg3, Tryz.sizeOf3, run_equalIn_int, Tryz.underlying3]
  by_cases h1 : a = c <;> by_cases h2 : b = d <;> simp [h1, h2]
theorem eq_term (k v t0 t1 k' v' t0' t1' : Int) (w : World) : (Op.equalIn 10000 46 (.agg [.int .i64 k, .int .i64 v, .int .i64 t0, .int .i64 t1].toArray) (.agg [.int .i64 k', .int .i64 v', .int .i64 t0', .int .i64 t1'].toArray)).run Tryz.prog w = .ok (decide (k = k' ∧ v = v' ∧ t0 = t0' ∧ t1 = t1')) w := by
  have hS : Tryz.prog.underlying 46 = some (.struct (Tryz.prog.fieldsOf 46)) := by kernel_rfl
  have hp : Tryz.prog.stoodInHeld 46 = false := by kernel_rfl
  rw [show (10000 : Nat) = 9999 + 1 from rfl, run_equalIn_agg w 9999 _ _ _ hS hp]
  simp only [Program.fieldsOf, Tryz.underlying46]
  have ha : (Op.equalIn 9999 44 (.agg #[.int .i64 t0, .int .i64 t1]) (.agg #[.int .i64 t0', .int .i64 t1'])).run Tryz.prog w = .ok (decide (t0 = t0' ∧ t1 = t1')) w := eq_arr t0 t1 t0' t1' w 9997
  simp [Op.eqFields, part, Tryz.isAgg3, Tryz.isAgg43, Tryz.isAgg44, Tryz.sizeOf44, run_equalIn_int, Tryz.underlying3, Tryz.underlying43, ha]
  by_cases h1 : k = k' <;> by_cases h2 : v = v' <;> by_cases h3 : t0 = t0' <;> by_cases h4 : t1 = t1' <;> simp [h1, h2, h3, h4]
theorem phi_iff (x y : PPhi) : decide (x = y) = (decide (x.dst = y.dst) && decide (x.args = y.args) && decide (x.from_ = y.from_)) := by
  cases x; cases y; simp [Bool.and_assoc]
theorem inst_iff (x y : PInst) : decide (x = y) = (decide (x.op = y.op) && decide (x.dst = y.dst) && decide (x.num = y.num) && decide (x.args = y.args)) := by
  cases x; cases y; apply Bool.eq_iff_iff.2; simp; constructor <;> (intro h; simp_all)
theorem var_ext {x y : PVar} (h : x.name = y.name ∧ x.ty = y.ty) : x = y := by
  cases x; cases y; simp_all
theorem ints_spec (xs ys : List Int) (hl : okL xs) : AFun Tryz.prog E 23 [.fro 1 (xs.map encI), .fro 1 (ys.map encI)] (.bool (decide (xs = ys))) := by
  have hl := hl.lt
  refine ACall.intro Tryz.func23 rfl (by decide) rfl ?_
  refine AWP.seq ?_
  refine AWP.region rfl ?_
  refine AOps.val (Gv.assign (v := .bool _) rfl) ?_
  refine AOps.nil ?_
  refine AWP.seq ?_
  refine AWP.seq ?_
  refine AWP.region rfl ?_
  refine AOps.val (Gv.move (v := .fro _ _) rfl) ?_
  refine AOps.val (Gv.lenM Tryz.underlying24 rfl) ?_
  refine AOps.val (Gv.move (v := .fro _ _) rfl) ?_
  refine AOps.val (Gv.lenM Tryz.underlying24 rfl) ?_
  refine AOps.val (Gv.neqI rfl rfl) ?_
  refine AOps.nil ?_
  refine AWP.cond rfl (fun c0 => ?_) (fun c0 => ?_)
  · skip
    have h : ¬ xs = ys := fun e => by subst e; simp at c0
    refine AWP.seq ?_
    refine AWP.region rfl ?_
    refine AOps.val (Gv.assign (v := .bool _) rfl) ?_
    refine AOps.nil ?_
    refine AWP.ret ?_
    repeat (first | refine aseqQ_ret ?_ | refine ablockQ_ret ?_)
    refine afin.t1 (x := .bool _) rfl ?_
    rw [decide_eq_false h]
  · skip
    have hl2 : xs.length = ys.length := by simp at c0; omega
    refine AWP.skip ?_
    refine AWP.seq ?_
    refine AWP.seq ?_
    refine AWP.region rfl ?_
    refine AOps.val (Gv.move (v := .fro _ _) rfl) ?_
    refine AOps.val (Gv.lenM Tryz.underlying24 rfl) ?_
    refine AOps.val (Gv.move (v := .int _ _) rfl) ?_
    refine AOps.nil ?_
    refine AWP.block ?_
    refine AWP.loop (γ := Nat) [0, 1, 12] (fun k => [(13, .int .i64 k)]) (fun k => []) (fun k => k ≤ xs.length ∧ xs.take k = ys.take k) (fun k => xs.length - k) 0 ⟨rfl, trivial⟩ ⟨_, (.refl _), rfl⟩ (⟨Nat.zero_le _, rfl⟩) ?_
    rintro k ⟨hk, he⟩
    refine AWP.seq ?_
    refine AWP.region rfl ?_
    refine AOps.val (Gv.lss rfl rfl) ?_
    refine AOps.nil ?_
    refine AWP.seq ?_
    refine AWP.condP rfl (fun ck => ?_) (fun ck => ?_)
    · skip
      have hk2 : k < xs.length := by omega
      have hk3 : k < ys.length := by omega
      refine AWP.skip ?_
      refine AWP.seq ?_
      refine AWP.block ?_
      refine AWP.seq ?_
      refine AWP.region rfl ?_
      refine AOps.val (Gv.move (v := .int _ _) rfl) ?_
      refine AOps.val (Gv.assign (v := .int _ _) rfl) ?_
      refine AOps.nil ?_
      refine AWP.seq ?_
      refine AWP.regionDraw (fun j => false) (by kernel_rfl) rfl (Part.perm (.rest _)) ?_
      refine AAny.take (i := 0) rfl (by kernel_rfl) (by kernel_rfl) (by kernel_rfl) (by kernel_rfl) (by kernel_rfl) (by kernel_rfl) (Gv.move (v := .fro _ _) rfl) ?_
      refine AAny.take (i := 1) rfl (by kernel_rfl) (by kernel_rfl) (by kernel_rfl) (by kernel_rfl) (by kernel_rfl) (by kernel_rfl) (Gv.move (v := .int _ _) rfl) ?_
      refine AAny.take (i := 2) rfl (by kernel_rfl) (by kernel_rfl) (by kernel_rfl) (by kernel_rfl) (by kernel_rfl) (by kernel_rfl) (Gv.idxM Tryz.underlying24 Tryz.sizeOf3 rfl rfl rfl (List.getElem?_eq_getElem (by omega))) ?_
      refine AAny.take (i := 3) rfl (by kernel_rfl) (by kernel_rfl) (by kernel_rfl) (by kernel_rfl) (by kernel_rfl) (by kernel_rfl) (Gv.load1F (c := .int _ _) Tryz.isAgg3 rfl) ?_
      refine AAny.take (i := 4) rfl (by kernel_rfl) (by kernel_rfl) (by kernel_rfl) (by kernel_rfl) (by kernel_rfl) (by kernel_rfl) (Gv.move (v := .fro _ _) rfl) ?_
      refine AAny.take (i := 5) rfl (by kernel_rfl) (by kernel_rfl) (by kernel_rfl) (by kernel_rfl) (by kernel_rfl) (by kernel_rfl) (Gv.move (v := .int _ _) rfl) ?_
      refine AAny.take (i := 6) rfl (by kernel_rfl) (by kernel_rfl) (by kernel_rfl) (by kernel_rfl) (by kernel_rfl) (by kernel_rfl) (Gv.idxM Tryz.underlying24 Tryz.sizeOf3 rfl rfl rfl (List.getElem?_eq_getElem (by omega))) ?_
      refine AAny.take (i := 7) rfl (by kernel_rfl) (by kernel_rfl) (by kernel_rfl) (by kernel_rfl) (by kernel_rfl) (by kernel_rfl) (Gv.load1F (c := .int _ _) Tryz.isAgg3 rfl) ?_
      refine AAny.take (i := 8) rfl (by kernel_rfl) (by kernel_rfl) (by kernel_rfl) (by kernel_rfl) (by kernel_rfl) (by kernel_rfl) (Gv.neqI rfl rfl) ?_
      refine AAny.done (by kernel_rfl) ?_
      refine AWP.cond rfl (fun cd => ?_) (fun cd => ?_)
      · skip
        refine AWP.seq ?_
        refine AWP.region rfl ?_
        refine AOps.val (Gv.assign (v := .bool _) rfl) ?_
        refine AOps.nil ?_
        refine AWP.ret ?_
        repeat (first | refine aseqQ_ret ?_ | refine ablockQ_ret ?_)
        refine afin.t1 (x := .bool _) rfl ?_
        rw [decide_eq_false (ne_at hk2 hk3 (by simpa using cd))]
      · skip
        refine AWP.skip ?_
        refine AWP.region rfl ?_
        refine AOps.val (Gv.add rfl rfl (by unfold I64; omega)) ?_
        refine AOps.val (Gv.move (v := .int _ _) rfl) ?_
        refine AOps.nil ?_
        exact ⟨k + 1, ⟨rfl, rfl, rfl, trivial⟩, ⟨rfl, trivial⟩, ⟨_, (.refl _), rfl⟩, ⟨hk2, take_push hk2 hk3 he (by simpa using cd)⟩, by omega⟩
    · skip
      refine AWP.exit ?_
      refine AWP.seq ?_
      refine AWP.region rfl ?_
      refine AOps.val (Gv.assign (v := .bool _) rfl) ?_
      refine AOps.nil ?_
      refine AWP.ret ?_
      repeat (first | refine aseqQ_ret ?_ | refine ablockQ_ret ?_)
      refine afin.t1 (x := .bool _) rfl ?_
      rw [decide_eq_true (take_done hl2 (by omega) he)]
end Go.Proofs.YtdkhlgiohpdihaaGreatDoor
namespace Go.Proofs
open Go.Shelf
def Tryz.laysM173_ren : Go.Shelf.Ren := ⟨fun | 173 => 59 | 246 => 87 | 283 => 107 | 284 => 108 | 285 => 109 | 286 => 110 | 129 => 123 | 317 => 122 | 318 => 124 | 319 => 125 | 320 => 126 | 337 => 136 | 338 => 137 | n => n, fun | 2 => 2 | 3 => 3 | 9 => 9 | 4 => 4 | 171 => 182 | 0 => 0 | 53 => 155 | 37 => 75 | 5 => 5 | 173 => 185 | 212 => 205 | 51 => 176 | 20 => 20 | 213 => 206 | 46 => 169 | 232 => 224 | 233 => 225 | n => n, fun | 17 => 4 | 18 => 6 | 19 => 7 | n => n⟩
theorem Tryz.laysM173 : Go.Proofs.LaysM.n173 Tryz.prog Tryz.laysM173_ren := {
  mixed := by kernel_rfl
  f129 := Tryz.func123.trans (congrArg some (by kernel_rfl))
  f173 := Tryz.func59.trans (congrArg some (by kernel_rfl))
  f246 := Tryz.func87.trans (congrArg some (by kernel_rfl))
  f283 := Tryz.func107.trans (congrArg some (by kernel_rfl))
  f284 := Tryz.func108.trans (congrArg some (by kernel_rfl))
  f285 := Tryz.func109.trans (congrArg some (by kernel_rfl))
  f286 := Tryz.func110.trans (congrArg some (by kernel_rfl))
  f317 := Tryz.func122.trans (congrArg some (by kernel_rfl))
  f318 := Tryz.func124.trans (congrArg some (by kernel_rfl))
  f319 := Tryz.func125.trans (congrArg some (by kernel_rfl))
  f320 := Tryz.func126.trans (congrArg some (by kernel_rfl))
  f337 := Tryz.func136.trans (congrArg some (by kernel_rfl))
  f338 := Tryz.func137.trans (congrArg some (by kernel_rfl))
  t0 := Tryz.underlying0
  a0 := Tryz.isAgg0
  z0 := Tryz.sizeOf0
  v0 := Tryz.zeroValue0
  t2 := Tryz.underlying2
  a2 := Tryz.isAgg2
  z2 := Tryz.sizeOf2
  v2 := Tryz.zeroValue2
  t3 := Tryz.underlying3
  a3 := Tryz.isAgg3
  z3 := Tryz.sizeOf3
  v3 := Tryz.zeroValue3
  t4 := Tryz.underlying4
  a4 := Tryz.isAgg4
  z4 := Tryz.sizeOf4
  v4 := Tryz.zeroValue4
  t5 := Tryz.underlying5
  a5 := Tryz.isAgg5
  z5 := Tryz.sizeOf5
  v5 := Tryz.zeroValue5
  t9 := Tryz.underlying9
  a9 := Tryz.isAgg9
  z9 := Tryz.sizeOf9
  v9 := Tryz.zeroValue9
  t20 := Tryz.underlying20
  a20 := Tryz.isAgg20
  z20 := Tryz.sizeOf20
  v20 := Tryz.zeroValue20
  t37 := Tryz.underlying75
  a37 := Tryz.isAgg75
  z37 := Tryz.sizeOf75
  v37 := Tryz.zeroValue75
  t46 := Tryz.underlying169
  a46 := Tryz.isAgg169
  z46 := Tryz.sizeOf169
  v46 := Tryz.zeroValue169
  t51 := Tryz.underlying176
  a51 := Tryz.isAgg176
  z51 := Tryz.sizeOf176
  v51 := Tryz.zeroValue176
  t53 := Tryz.underlying155
  a53 := Tryz.isAgg155
  z53 := Tryz.sizeOf155
  v53 := Tryz.zeroValue155
  t171 := Tryz.underlying182
  a171 := Tryz.isAgg182
  z171 := Tryz.sizeOf182
  v171 := Tryz.zeroValue182
  t173 := Tryz.underlying185
  a173 := Tryz.isAgg185
  z173 := Tryz.sizeOf185
  v173 := Tryz.zeroValue185
  t212 := Tryz.underlying205
  a212 := Tryz.isAgg205
  z212 := Tryz.sizeOf205
  v212 := Tryz.zeroValue205
  t213 := Tryz.underlying206
  a213 := Tryz.isAgg206
  z213 := Tryz.sizeOf206
  t232 := Tryz.underlying224
  a232 := Tryz.isAgg224
  z232 := Tryz.sizeOf224
  v232 := Tryz.zeroValue224
  t233 := Tryz.underlying225
  a233 := Tryz.isAgg225
  z233 := Tryz.sizeOf225
  v233 := Tryz.zeroValue225
  g17 := by kernel_rfl
  g18 := by kernel_rfl
  g19 := by kernel_rfl
  i0 := by kernel_rfl
  i2 := by kernel_rfl
  i3 := by kernel_rfl
  i4 := by kernel_rfl
  i5 := by kernel_rfl
  i9 := by kernel_rfl
  i20 := by kernel_rfl
  i37 := by kernel_rfl
  i46 := by kernel_rfl
  i51 := by kernel_rfl
  i53 := by kernel_rfl
  i171 := by kernel_rfl
  i173 := by kernel_rfl
  i212 := by kernel_rfl
  i232 := by kernel_rfl
  i233 := by kernel_rfl
  m17 := by kernel_rfl
  m18 := by kernel_rfl
  m19 := by kernel_rfl }
open Go.RowKit Go.Sort Go.Lib in
theorem Tryz.strconv_FormatInt_10 (n : Int) (h0 : -9223372036854775808 ≤ n) (h1 : n ≤ 9223372036854775807) (w : World) (htab : Lib.TabIs Tryz.prog w "internal/strconv.uint64pow10" .u64 Lib.pow10Tab) :
    Calls Tryz.prog 59 #[.int .i64 n, .int .i64 10] w fun e w' => e = .returned (.string ⟨(Lib.itoa n).toArray⟩) ∧ ∃ k os, w' = grow (w.drewN k) os := Any.strconv_FormatInt_10 Tryz.laysM173 n h0 h1 w htab
def Tryz.laysC174_ren : Go.Shelf.Ren := ⟨fun | 174 => 142 | 247 => 144 | 245 => 145 | 287 => 146 | 279 => 147 | 280 => 148 | 281 => 149 | 282 => 150 | 321 => 151 | 322 => 152 | 316 => 153 | 171 => 155 | 205 => 154 | 243 => 156 | 246 => 87 | 283 => 107 | 284 => 108 | 285 => 109 | 286 => 110 | 129 => 123 | 317 => 122 | 318 => 124 | 319 => 125 | 320 => 126 | 337 => 136 | 338 => 137 | n => n, fun | 9 => 9 | 3 => 3 | 2 => 2 | 75 => 79 | 85 => 222 | 4 => 4 | 167 => 227 | 5 => 5 | 53 => 155 | 175 => 228 | 46 => 169 | 168 => 230 | 37 => 75 | 0 => 0 | 210 => 236 | 21 => 21 | 127 => 125 | 145 => 240 | 143 => 238 | 171 => 182 | 173 => 185 | 212 => 205 | 51 => 176 | 20 => 20 | 213 => 206 | 232 => 224 | 233 => 225 | 80 => 88 | n => n, fun | 15 => 8 | 16 => 9 | 17 => 4 | 18 => 6 | 19 => 7 | n => n⟩
theorem Tryz.laysC174 : Go.Proofs.LaysC.n174 Tryz.prog Tryz.laysC174_ren := {
  mixed := by kernel_rfl
  f129 := Tryz.func123.trans (congrArg some (by kernel_rfl))
  f171 := Tryz.func155.trans (congrArg some (by kernel_rfl))
  f174 := Tryz.func142.trans (congrArg some (by kernel_rfl))
  f205 := Tryz.func154.trans (congrArg some (by kernel_rfl))
  f243 := Tryz.func156.trans (congrArg some (by kernel_rfl))
  f245 := Tryz.func145.trans (congrArg some (by kernel_rfl))
  f246 := Tryz.func87.trans (congrArg some (by kernel_rfl))
  f247 := Tryz.func144.trans (congrArg some (by kernel_rfl))
  f279 := Tryz.func147.trans (congrArg some (by kernel_rfl))
  f280 := Tryz.func148.trans (congrArg some (by kernel_rfl))
  f281 := Tryz.func149.trans (congrArg some (by kernel_rfl))
  f282 := Tryz.func150.trans (congrArg some (by kernel_rfl))
  f283 := Tryz.func107.trans (congrArg some (by kernel_rfl))
  f284 := Tryz.func108.trans (congrArg some (by kernel_rfl))
  f285 := Tryz.func109.trans (congrArg some (by kernel_rfl))
  f286 := Tryz.func110.trans (congrArg some (by kernel_rfl))
  f287 := Tryz.func146.trans (congrArg some (by kernel_rfl))
  f316 := Tryz.func153.trans (congrArg some (by kernel_rfl))
  f317 := Tryz.func122.trans (congrArg some (by kernel_rfl))
  f318 := Tryz.func124.trans (congrArg some (by kernel_rfl))
  f319 := Tryz.func125.trans (congrArg some (by kernel_rfl))
  f320 := Tryz.func126.trans (congrArg some (by kernel_rfl))
  f321 := Tryz.func151.trans (congrArg some (by kernel_rfl))
  f322 := Tryz.func152.trans (congrArg some (by kernel_rfl))
  f337 := Tryz.func136.trans (congrArg some (by kernel_rfl))
  f338 := Tryz.func137.trans (congrArg some (by kernel_rfl))
  t0 := Tryz.underlying0
  a0 := Tryz.isAgg0
  z0 := Tryz.sizeOf0
  v0 := Tryz.zeroValue0
  t2 := Tryz.underlying2
  a2 := Tryz.isAgg2
  z2 := Tryz.sizeOf2
  v2 := Tryz.zeroValue2
  t3 := Tryz.underlying3
  a3 := Tryz.isAgg3
  z3 := Tryz.sizeOf3
  v3 := Tryz.zeroValue3
  t4 := Tryz.underlying4
  a4 := Tryz.isAgg4
  z4 := Tryz.sizeOf4
  v4 := Tryz.zeroValue4
  t5 := Tryz.underlying5
  a5 := Tryz.isAgg5
  z5 := Tryz.sizeOf5
  v5 := Tryz.zeroValue5
  t9 := Tryz.underlying9
  a9 := Tryz.isAgg9
  z9 := Tryz.sizeOf9
  v9 := Tryz.zeroValue9
  t20 := Tryz.underlying20
  a20 := Tryz.isAgg20
  z20 := Tryz.sizeOf20
  v20 := Tryz.zeroValue20
  t21 := Tryz.underlying21
  a21 := Tryz.isAgg21
  z21 := Tryz.sizeOf21
  v21 := Tryz.zeroValue21
  t37 := Tryz.underlying75
  a37 := Tryz.isAgg75
  z37 := Tryz.sizeOf75
  v37 := Tryz.zeroValue75
  t46 := Tryz.underlying169
  a46 := Tryz.isAgg169
  z46 := Tryz.sizeOf169
  v46 := Tryz.zeroValue169
  t51 := Tryz.underlying176
  a51 := Tryz.isAgg176
  z51 := Tryz.sizeOf176
  v51 := Tryz.zeroValue176
  t53 := Tryz.underlying155
  a53 := Tryz.isAgg155
  z53 := Tryz.sizeOf155
  v53 := Tryz.zeroValue155
  t75 := Tryz.underlying79
  a75 := Tryz.isAgg79
  z75 := Tryz.sizeOf79
  v75 := Tryz.zeroValue79
  t85 := Tryz.underlying222
  a85 := Tryz.isAgg222
  z85 := Tryz.sizeOf222
  v85 := Tryz.zeroValue222
  t127 := Tryz.underlying125
  a127 := Tryz.isAgg125
  z127 := Tryz.sizeOf125
  v127 := Tryz.zeroValue125
  t143 := Tryz.underlying238
  a143 := Tryz.isAgg238
  z143 := Tryz.sizeOf238
  v143 := Tryz.zeroValue238
  t145 := Tryz.underlying240
  a145 := Tryz.isAgg240
  z145 := Tryz.sizeOf240
  v145 := Tryz.zeroValue240
  t167 := Tryz.underlying227
  a167 := Tryz.isAgg227
  z167 := Tryz.sizeOf227
  v167 := Tryz.zeroValue227
  t168 := Tryz.underlying230
  a168 := Tryz.isAgg230
  z168 := Tryz.sizeOf230
  v168 := Tryz.zeroValue230
  t171 := Tryz.underlying182
  a171 := Tryz.isAgg182
  z171 := Tryz.sizeOf182
  v171 := Tryz.zeroValue182
  t173 := Tryz.underlying185
  a173 := Tryz.isAgg185
  z173 := Tryz.sizeOf185
  v173 := Tryz.zeroValue185
  t175 := Tryz.underlying228
  a175 := Tryz.isAgg228
  z175 := Tryz.sizeOf228
  v175 := Tryz.zeroValue228
  t210 := Tryz.underlying236
  a210 := Tryz.isAgg236
  z210 := Tryz.sizeOf236
  v210 := Tryz.zeroValue236
  t212 := Tryz.underlying205
  a212 := Tryz.isAgg205
  z212 := Tryz.sizeOf205
  v212 := Tryz.zeroValue205
  t213 := Tryz.underlying206
  a213 := Tryz.isAgg206
  z213 := Tryz.sizeOf206
  t232 := Tryz.underlying224
  a232 := Tryz.isAgg224
  z232 := Tryz.sizeOf224
  v232 := Tryz.zeroValue224
  t233 := Tryz.underlying225
  a233 := Tryz.isAgg225
  z233 := Tryz.sizeOf225
  v233 := Tryz.zeroValue225
  g15 := by kernel_rfl
  g16 := by kernel_rfl
  g17 := by kernel_rfl
  g18 := by kernel_rfl
  g19 := by kernel_rfl
  t80 := Tryz.underlying88
  a80 := Tryz.isAgg88
  z80 := Tryz.sizeOf88
  v80 := Tryz.zeroValue88
  i0 := by kernel_rfl
  i2 := by kernel_rfl
  i3 := by kernel_rfl
  i4 := by kernel_rfl
  i5 := by kernel_rfl
  i9 := by kernel_rfl
  i20 := by kernel_rfl
  i21 := by kernel_rfl
  i37 := by kernel_rfl
  i46 := by kernel_rfl
  i51 := by kernel_rfl
  i53 := by kernel_rfl
  i75 := by kernel_rfl
  i80 := by kernel_rfl
  i85 := by kernel_rfl
  i127 := by kernel_rfl
  i143 := by kernel_rfl
  i145 := by kernel_rfl
  i167 := by kernel_rfl
  i168 := by kernel_rfl
  i171 := by kernel_rfl
  i173 := by kernel_rfl
  i175 := by kernel_rfl
  i210 := by kernel_rfl
  i212 := by kernel_rfl
  i232 := by kernel_rfl
  i233 := by kernel_rfl
  m15 := by kernel_rfl
  m16 := by kernel_rfl
  m17 := by kernel_rfl
  m18 := by kernel_rfl
  m19 := by kernel_rfl
  c0 := by kernel_rfl
  c2 := by kernel_rfl
  c3 := by kernel_rfl
  c4 := by kernel_rfl
  c5 := by kernel_rfl
  c9 := by kernel_rfl
  c20 := by kernel_rfl
  c21 := by kernel_rfl
  c37 := by kernel_rfl
  c46 := by kernel_rfl
  c51 := by kernel_rfl
  c53 := by kernel_rfl
  c75 := by kernel_rfl
  c80 := by kernel_rfl
  c85 := by kernel_rfl
  c127 := by kernel_rfl
  c143 := by kernel_rfl
  c145 := by kernel_rfl
  c167 := by kernel_rfl
  c168 := by kernel_rfl
  c171 := by kernel_rfl
  c173 := by kernel_rfl
  c175 := by kernel_rfl
  c210 := by kernel_rfl
  c212 := by kernel_rfl
  c213 := by kernel_rfl
  c232 := by kernel_rfl
  c233 := by kernel_rfl }
def noNum : Lib.NumEnd Int := Lib.parseIntB 64 []
open Go.RowKit in
theorem Tryz.strconv_ParseInt_10_at64_ok (s : ByteArray) (hmax : s.size ≤ 9223372036854775806) (v : Int) (h : Lib.parseIntB 64 s.data.toList = .ok v) (w : World) :
    Calls Tryz.prog 142 #[.string s, .int .i64 10, .int .i64 64] w fun e w' => e = .returned (.tuple #[.int .i64 v, .nilIface]) ∧ (w' = w ∨ ∃ t, w' = Lib.bytesWorld w 5 t) := Any.strconv_ParseInt_10_at64_ok Tryz.laysC174 s hmax v h w
open Go.RowKit in
theorem Tryz.strconv_ParseInt_10_at64_syntax (s : ByteArray) (hlim : s.size ≤ 281474976710656) (h : Lib.parseIntB 64 s.data.toList = noNum) (ev : Value) (w : World) (hv : w.cell? ⟨8, 0, none⟩ = some ev) (hev : ev = .nilIface ∨ ∃ te pe, ev = .iface te pe) :
    Calls Tryz.prog 142 #[.string s, .int .i64 10, .int .i64 64] w fun e w' => ∃ N, e = .returned (.tuple #[.int .i64 (0), .iface 230 (.pointer (some ⟨N, 0, none⟩))]) ∧ w.heap.size ≤ N ∧ w'.heap[N]? = some (.cells #[.string ⟨#[80, 97, 114, 115, 101, 73, 110, 116]⟩, .string s, ev] 236 (0, 0)) ∧ Below w.heap.size w w' := Any.strconv_ParseInt_10_at64_syntax Tryz.laysC174 s hlim h ev w hv hev
open Go.RowKit in
theorem Tryz.strconv_ParseInt_10_at64_range (s : ByteArray) (hlim : s.size ≤ 281474976710656) (h : Lib.parseIntB 64 s.data.toList = .range) (ev : Value) (w : World) (hv : w.cell? ⟨9, 0, none⟩ = some ev) (hev : ev = .nilIface ∨ ∃ te pe, ev = .iface te pe) :
    Calls Tryz.prog 142 #[.string s, .int .i64 10, .int .i64 64] w fun e w' => ∃ N, e = .returned (.tuple #[.int .i64 (Lib.intSat 64 s.data.toList), .iface 230 (.pointer (some ⟨N, 0, none⟩))]) ∧ w.heap.size ≤ N ∧ w'.heap[N]? = some (.cells #[.string ⟨#[80, 97, 114, 115, 101, 73, 110, 116]⟩, .string s, ev] 236 (0, 0)) ∧ Below w.heap.size w w' := Any.strconv_ParseInt_10_at64_range Tryz.laysC174 s hlim h ev w hv hev
def Tryz.lays145_ren : Go.Shelf.Ren := ⟨fun | 145 => 75 | 220 => 97 | 219 => 115 | 217 => 128 | 225 => 129 | 224 => 130 | 267 => 131 | 266 => 138 | 314 => 139 | n => n, fun | 9 => 9 | 4 => 4 | 59 => 137 | 3 => 3 | 5 => 5 | 46 => 169 | 146 => 216 | 51 => 176 | n => n, fun | 1 => 5 | n => n⟩
theorem Tryz.lays145 : Go.Proofs.Lays.n145 Tryz.prog Tryz.lays145_ren := {
  mixed := by kernel_rfl
  f145 := Tryz.func75.trans (congrArg some (by kernel_rfl))
  f217 := Tryz.func128.trans (congrArg some (by kernel_rfl))
  f219 := Tryz.func115.trans (congrArg some (by kernel_rfl))
  f220 := Tryz.func97.trans (congrArg some (by kernel_rfl))
  f224 := Tryz.func130.trans (congrArg some (by kernel_rfl))
  f225 := Tryz.func129.trans (congrArg some (by kernel_rfl))
  f266 := Tryz.func138.trans (congrArg some (by kernel_rfl))
  f267 := Tryz.func131.trans (congrArg some (by kernel_rfl))
  f314 := Tryz.func139.trans (congrArg some (by kernel_rfl))
  t3 := Tryz.underlying3
  a3 := Tryz.isAgg3
  z3 := Tryz.sizeOf3
  v3 := Tryz.zeroValue3
  t4 := Tryz.underlying4
  a4 := Tryz.isAgg4
  z4 := Tryz.sizeOf4
  v4 := Tryz.zeroValue4
  t5 := Tryz.underlying5
  a5 := Tryz.isAgg5
  z5 := Tryz.sizeOf5
  v5 := Tryz.zeroValue5
  t9 := Tryz.underlying9
  a9 := Tryz.isAgg9
  z9 := Tryz.sizeOf9
  v9 := Tryz.zeroValue9
  t46 := Tryz.underlying169
  a46 := Tryz.isAgg169
  z46 := Tryz.sizeOf169
  v46 := Tryz.zeroValue169
  t51 := Tryz.underlying176
  a51 := Tryz.isAgg176
  z51 := Tryz.sizeOf176
  v51 := Tryz.zeroValue176
  t59 := Tryz.underlying137
  a59 := Tryz.isAgg137
  z59 := Tryz.sizeOf137
  v59 := Tryz.zeroValue137
  t146 := Tryz.underlying216
  a146 := Tryz.isAgg216
  z146 := Tryz.sizeOf216
  v146 := Tryz.zeroValue216
  g1 := by kernel_rfl }
open Go.RowKit Go.Lib in
theorem Tryz.strings_Cut (s sep : ByteArray) (m : Int) (w : World) (hs : s.size < 4294967281) (hm : w.cell? ⟨5, 0, none⟩ = some (.int .i64 m)) :
    Calls Tryz.prog 75 #[.string s, .string sep] w fun e w' => e = .returned (.tuple #[.string ⟨(Lib.cut s.data.toList sep.data.toList).1.toArray⟩, .string ⟨(Lib.cut s.data.toList sep.data.toList).2.1.toArray⟩, .bool (Lib.cut s.data.toList sep.data.toList).2.2]) ∧ ∃ n, w' = w.drewN n := Any.strings_Cut Tryz.lays145 s sep m w hs hm
def Tryz.lays146_ren : Go.Shelf.Ren := ⟨fun | 146 => 46 | 221 => 74 | 268 => 94 | 138 => 95 | 143 => 96 | 195 => 112 | 197 => 113 | 218 => 114 | 219 => 115 | 260 => 127 | 217 => 128 | 225 => 129 | 224 => 130 | 267 => 131 | 266 => 138 | 314 => 139 | n => n, fun | 9 => 9 | 31 => 62 | 3 => 3 | 4 => 4 | 0 => 0 | 105 => 188 | 21 => 21 | 5 => 5 | 46 => 169 | 119 => 165 | 139 => 168 | 138 => 167 | 146 => 216 | 51 => 176 | n => n, fun | 1 => 5 | 3 => 0 | 4 => 1 | n => n⟩
theorem Tryz.lays146 : Go.Proofs.Lays.n146 Tryz.prog Tryz.lays146_ren := {
  mixed := by kernel_rfl
  f138 := Tryz.func95.trans (congrArg some (by kernel_rfl))
  f143 := Tryz.func96.trans (congrArg some (by kernel_rfl))
  f146 := Tryz.func46.trans (congrArg some (by kernel_rfl))
  f195 := Tryz.func112.trans (congrArg some (by kernel_rfl))
  f197 := Tryz.func113.trans (congrArg some (by kernel_rfl))
  f217 := Tryz.func128.trans (congrArg some (by kernel_rfl))
  f218 := Tryz.func114.trans (congrArg some (by kernel_rfl))
  f219 := Tryz.func115.trans (congrArg some (by kernel_rfl))
  f221 := Tryz.func74.trans (congrArg some (by kernel_rfl))
  f224 := Tryz.func130.trans (congrArg some (by kernel_rfl))
  f225 := Tryz.func129.trans (congrArg some (by kernel_rfl))
  f260 := Tryz.func127.trans (congrArg some (by kernel_rfl))
  f266 := Tryz.func138.trans (congrArg some (by kernel_rfl))
  f267 := Tryz.func131.trans (congrArg some (by kernel_rfl))
  f268 := Tryz.func94.trans (congrArg some (by kernel_rfl))
  f314 := Tryz.func139.trans (congrArg some (by kernel_rfl))
  t0 := Tryz.underlying0
  a0 := Tryz.isAgg0
  z0 := Tryz.sizeOf0
  v0 := Tryz.zeroValue0
  t3 := Tryz.underlying3
  a3 := Tryz.isAgg3
  z3 := Tryz.sizeOf3
  v3 := Tryz.zeroValue3
  t4 := Tryz.underlying4
  a4 := Tryz.isAgg4
  z4 := Tryz.sizeOf4
  v4 := Tryz.zeroValue4
  t5 := Tryz.underlying5
  a5 := Tryz.isAgg5
  z5 := Tryz.sizeOf5
  v5 := Tryz.zeroValue5
  t9 := Tryz.underlying9
  a9 := Tryz.isAgg9
  z9 := Tryz.sizeOf9
  v9 := Tryz.zeroValue9
  t21 := Tryz.underlying21
  a21 := Tryz.isAgg21
  z21 := Tryz.sizeOf21
  v21 := Tryz.zeroValue21
  t31 := Tryz.underlying62
  a31 := Tryz.isAgg62
  z31 := Tryz.sizeOf62
  v31 := Tryz.zeroValue62
  t46 := Tryz.underlying169
  a46 := Tryz.isAgg169
  z46 := Tryz.sizeOf169
  v46 := Tryz.zeroValue169
  t51 := Tryz.underlying176
  a51 := Tryz.isAgg176
  z51 := Tryz.sizeOf176
  v51 := Tryz.zeroValue176
  t105 := Tryz.underlying188
  a105 := Tryz.isAgg188
  z105 := Tryz.sizeOf188
  v105 := Tryz.zeroValue188
  t119 := Tryz.underlying165
  a119 := Tryz.isAgg165
  z119 := Tryz.sizeOf165
  t138 := Tryz.underlying167
  a138 := Tryz.isAgg167
  z138 := Tryz.sizeOf167
  v138 := Tryz.zeroValue167
  t139 := Tryz.underlying168
  a139 := Tryz.isAgg168
  z139 := Tryz.sizeOf168
  v139 := Tryz.zeroValue168
  t146 := Tryz.underlying216
  a146 := Tryz.isAgg216
  z146 := Tryz.sizeOf216
  v146 := Tryz.zeroValue216
  g1 := by kernel_rfl
  g3 := by kernel_rfl
  g4 := by kernel_rfl }
open Go.RowKit Go.Lib in
theorem Tryz.strings_Split (s sep : ByteArray) (m : Int) (w : World) (hs : s.size < 4294967281) (hm : w.cell? ⟨5, 0, none⟩ = some (.int .i64 m)) (h1 : 1 ≤ sep.size) :
    Calls Tryz.prog 46 #[.string s, .string sep] w fun e w' =>
      e = .returned (.slice (some ⟨w.heap.size, 0, none⟩) (Lib.countB s sep + 1) (Lib.countB s sep + 1)) ∧ w' = w.alloc (.cells ((Lib.splitB sep 0 (Lib.countB s sep) s).map Value.string).toArray 9) := Any.strings_Split Tryz.lays146 (by kernel_rfl) s sep m w hs hm h1
def Tryz.lays200_ren : Go.Shelf.Ren := ⟨fun | 200 => 84 | 261 => 104 | 311 => 120 | 312 => 121 | n => n, fun | 21 => 21 | 4 => 4 | 51 => 176 | 5 => 5 | 119 => 165 | 0 => 0 | 141 => 178 | 196 => 195 | 193 => 192 | 3 => 3 | 198 => 198 | 49 => 196 | 194 => 193 | 201 => 201 | 226 => 213 | 46 => 169 | 227 => 214 | n => n, fun | 7 => 2 | 8 => 3 | n => n⟩
theorem Tryz.lays200 : Go.Proofs.Lays.n200 Tryz.prog Tryz.lays200_ren := {
  mixed := by kernel_rfl
  f200 := Tryz.func84.trans (congrArg some (by kernel_rfl))
  f261 := Tryz.func104.trans (congrArg some (by kernel_rfl))
  f311 := Tryz.func120.trans (congrArg some (by kernel_rfl))
  f312 := Tryz.func121.trans (congrArg some (by kernel_rfl))
  t0 := Tryz.underlying0
  a0 := Tryz.isAgg0
  z0 := Tryz.sizeOf0
  v0 := Tryz.zeroValue0
  t3 := Tryz.underlying3
  a3 := Tryz.isAgg3
  z3 := Tryz.sizeOf3
  v3 := Tryz.zeroValue3
  t4 := Tryz.underlying4
  a4 := Tryz.isAgg4
  z4 := Tryz.sizeOf4
  v4 := Tryz.zeroValue4
  t5 := Tryz.underlying5
  a5 := Tryz.isAgg5
  z5 := Tryz.sizeOf5
  v5 := Tryz.zeroValue5
  t21 := Tryz.underlying21
  a21 := Tryz.isAgg21
  z21 := Tryz.sizeOf21
  v21 := Tryz.zeroValue21
  t46 := Tryz.underlying169
  a46 := Tryz.isAgg169
  z46 := Tryz.sizeOf169
  v46 := Tryz.zeroValue169
  t49 := Tryz.underlying196
  a49 := Tryz.isAgg196
  z49 := Tryz.sizeOf196
  v49 := Tryz.zeroValue196
  t51 := Tryz.underlying176
  a51 := Tryz.isAgg176
  z51 := Tryz.sizeOf176
  v51 := Tryz.zeroValue176
  t119 := Tryz.underlying165
  a119 := Tryz.isAgg165
  z119 := Tryz.sizeOf165
  t141 := Tryz.underlying178
  a141 := Tryz.isAgg178
  z141 := Tryz.sizeOf178
  v141 := Tryz.zeroValue178
  t193 := Tryz.underlying192
  a193 := Tryz.isAgg192
  z193 := Tryz.sizeOf192
  v193 := Tryz.zeroValue192
  t194 := Tryz.underlying193
  a194 := Tryz.isAgg193
  z194 := Tryz.sizeOf193
  v194 := Tryz.zeroValue193
  t196 := Tryz.underlying195
  a196 := Tryz.isAgg195
  z196 := Tryz.sizeOf195
  v196 := Tryz.zeroValue195
  t198 := Tryz.underlying198
  a198 := Tryz.isAgg198
  z198 := Tryz.sizeOf198
  v198 := Tryz.zeroValue198
  t201 := Tryz.underlying201
  a201 := Tryz.isAgg201
  z201 := Tryz.sizeOf201
  v201 := Tryz.zeroValue201
  t226 := Tryz.underlying213
  a226 := Tryz.isAgg213
  z226 := Tryz.sizeOf213
  v226 := Tryz.zeroValue213
  t227 := Tryz.underlying214
  a227 := Tryz.isAgg214
  z227 := Tryz.sizeOf214
  v227 := Tryz.zeroValue214
  g7 := by kernel_rfl
  g8 := by kernel_rfl }
def Tryz.lays260_ren : Go.Shelf.Ren := ⟨fun | 260 => 127 | n => n, fun | 9 => 9 | 21 => 21 | 3 => 3 | 4 => 4 | 5 => 5 | 119 => 165 | 0 => 0 | 46 => 169 | 139 => 168 | 138 => 167 | n => n, fun | 3 => 0 | 4 => 1 | n => n⟩
theorem Tryz.lays260 : Go.Proofs.Lays.n260 Tryz.prog Tryz.lays260_ren := {
  mixed := by kernel_rfl
  f260 := Tryz.func127.trans (congrArg some (by kernel_rfl))
  t0 := Tryz.underlying0
  a0 := Tryz.isAgg0
  z0 := Tryz.sizeOf0
  v0 := Tryz.zeroValue0
  t3 := Tryz.underlying3
  a3 := Tryz.isAgg3
  z3 := Tryz.sizeOf3
  v3 := Tryz.zeroValue3
  t4 := Tryz.underlying4
  a4 := Tryz.isAgg4
  z4 := Tryz.sizeOf4
  v4 := Tryz.zeroValue4
  t5 := Tryz.underlying5
  a5 := Tryz.isAgg5
  z5 := Tryz.sizeOf5
  v5 := Tryz.zeroValue5
  t9 := Tryz.underlying9
  a9 := Tryz.isAgg9
  z9 := Tryz.sizeOf9
  v9 := Tryz.zeroValue9
  t21 := Tryz.underlying21
  a21 := Tryz.isAgg21
  z21 := Tryz.sizeOf21
  v21 := Tryz.zeroValue21
  t46 := Tryz.underlying169
  a46 := Tryz.isAgg169
  z46 := Tryz.sizeOf169
  v46 := Tryz.zeroValue169
  t119 := Tryz.underlying165
  a119 := Tryz.isAgg165
  z119 := Tryz.sizeOf165
  t138 := Tryz.underlying167
  a138 := Tryz.isAgg167
  z138 := Tryz.sizeOf167
  v138 := Tryz.zeroValue167
  t139 := Tryz.underlying168
  a139 := Tryz.isAgg168
  z139 := Tryz.sizeOf168
  v139 := Tryz.zeroValue168
  g3 := by kernel_rfl
  g4 := by kernel_rfl }
open Go.RowKit Go.Lib in
theorem Tryz.unicode_IsLetter_all (r : Int) (w : World) (hlo : -2147483648 ≤ r) (hhi : r ≤ 2147483647) (htab : Lib.TabIs Tryz.prog w "unicode.properties" .u8 Lib.propertiesTab) (hV : RVar 3 letterT w) :
    Calls Tryz.prog 84 #[.int .i32 r] w fun e w' => e = .returned (.bool (isLetterU r)) ∧ Below w.heap.size w w' := Any.unicode_IsLetter_all Tryz.lays200 (by kernel_rfl) r w hlo hhi htab hV
def Tryz.lays196_ren : Go.Shelf.Ren := ⟨fun | 196 => 73 | 259 => 93 | n => n, fun | 9 => 9 | 4 => 4 | 3 => 3 | 5 => 5 | 12 => 12 | 119 => 165 | 0 => 0 | 46 => 169 | 139 => 168 | 138 => 167 | 53 => 155 | n => n, fun | 3 => 0 | 4 => 1 | n => n⟩
theorem Tryz.lays196 : Go.Proofs.Lays.n196 Tryz.prog Tryz.lays196_ren := {
  mixed := by kernel_rfl
  f196 := Tryz.func73.trans (congrArg some (by kernel_rfl))
  f259 := Tryz.func93.trans (congrArg some (by kernel_rfl))
  t0 := Tryz.underlying0
  a0 := Tryz.isAgg0
  z0 := Tryz.sizeOf0
  v0 := Tryz.zeroValue0
  t3 := Tryz.underlying3
  a3 := Tryz.isAgg3
  z3 := Tryz.sizeOf3
  v3 := Tryz.zeroValue3
  t4 := Tryz.underlying4
  a4 := Tryz.isAgg4
  z4 := Tryz.sizeOf4
  v4 := Tryz.zeroValue4
  t5 := Tryz.underlying5
  a5 := Tryz.isAgg5
  z5 := Tryz.sizeOf5
  v5 := Tryz.zeroValue5
  t9 := Tryz.underlying9
  a9 := Tryz.isAgg9
  z9 := Tryz.sizeOf9
  v9 := Tryz.zeroValue9
  t12 := Tryz.underlying12
  a12 := Tryz.isAgg12
  z12 := Tryz.sizeOf12
  v12 := Tryz.zeroValue12
  t46 := Tryz.underlying169
  a46 := Tryz.isAgg169
  z46 := Tryz.sizeOf169
  v46 := Tryz.zeroValue169
  t53 := Tryz.underlying155
  a53 := Tryz.isAgg155
  z53 := Tryz.sizeOf155
  v53 := Tryz.zeroValue155
  t119 := Tryz.underlying165
  a119 := Tryz.isAgg165
  z119 := Tryz.sizeOf165
  t138 := Tryz.underlying167
  a138 := Tryz.isAgg167
  z138 := Tryz.sizeOf167
  v138 := Tryz.zeroValue167
  t139 := Tryz.underlying168
  a139 := Tryz.isAgg168
  z139 := Tryz.sizeOf168
  v139 := Tryz.zeroValue168
  g3 := by kernel_rfl
  g4 := by kernel_rfl }
open Go.RowKit Go.Lib in
theorem Tryz.utf8_ValidString (s : ByteArray) (w : World) (hs : s.size ≤ 9223372036854775807) (hT : Lib.Utf8Tabs 0 1 w) :
    Calls Tryz.prog 73 #[.string s] w fun e w' => e = .returned (.bool (Lib.validD s.data.toList)) ∧ Below w.heap.size w w' := Any.utf8_ValidString Tryz.lays196 s w hs hT
end Go.Proofs
namespace Go.Proofs.YtdkhlgiohpdihaaGreatDoor
open Go.Proofs
theorem pl44 : PlacesA Tryz.prog 44 1 [.int .i64 0, .int .i64 0] := ⟨_, _, _, Tryz.underlying44, Tryz.zeroValue44, Tryz.sizeOf3, rfl⟩
theorem ps62_1 : PlacesS Tryz.prog 62 9 1 1 [.str ⟨#[]⟩] := ⟨_, Tryz.underlying62, Tryz.sizeOf9, Tryz.zeroValue9, by decide, by decide, by kernel_rfl⟩
set_option maxRecDepth 20000
variable {E : World}
def inst1 (f : PFunc) (x : PInst) : Bool := decide ((kRow x.op).1 = ⟨#[]⟩) || !decide (x.args.length = (takesL x.op).length) || !x.args.all (hasV f)
def inst2 (f : PFunc) (x : PInst) : Bool := (makesB x.op && !hasV f x.dst) || (!makesB x.op && !decide (x.dst = -1))
def instOK (f : PFunc) (x : PInst) : Bool := !inst1 f x && !inst2 f x && (decide (x.num = 0) || isNum x.op)
def termOK (f : PFunc) (t : PTerm) : Bool := if t.kind = 0 then hasB f t.to0 && decide (t.to1 = 0) && decide (t.var = 0) else if t.kind = 1 then hasV f t.var && hasB f t.to0 && hasB f t.to1 else
  if t.kind = 2 then hasV f t.var && decide (t.to0 = 0 ∧ t.to1 = 0) else false
theorem eq_arr10 (a b c d : Int) (w : World) : (Op.equalIn 10000 44 (.agg [.int .i64 a, .int .i64 b].toArray) (.agg [.int .i64 c, .int .i64 d].toArray)).run Tryz.prog w = .ok (decide (a = c ∧ b = d)) w := eq_arr a b c d w 9998
def joinS (ws : List ByteArray) (sep : ByteArray) : ByteArray := ⟨(Lib.join (ws.map (·.data.toList)) sep.data.toList).toArray⟩
def encS (s : ByteArray) : List AV := [.str s]
def Pows (E : World) : Prop := Lib.TabIs Tryz.prog E "internal/strconv.uint64pow10" .u64 Lib.pow10Tab
theorem tab_up {P : Program} {name : String} {k : IntKind} {zs : List Int} {I : Ghost} {O : List (Nat × Obj)} {w : World} (h : Lib.TabIs P E name k zs) (hS : SL I O E w) : Lib.TabIs P w name k zs := by
  unfold Lib.TabIs World.var? at *
  cases hg : P.globalNamed name with
  | none => rw [hg] at h; cases h
  | some g =>
    rw [hg] at h
    simp only [Option.bind_some] at h ⊢
    cases hh : E.heap[g]? with
    | none => rw [hh] at h; cases h
    | some o => rw [hh] at h; rw [hS.pers _ _ (hS.base _ _ hh)]; exact h
theorem formatInt_spec (n : Int) (hn : -9223372036854775808 ≤ n ∧ n ≤ 9223372036854775807) (hT : Pows E) : AFun Tryz.prog E 59 [.int .i64 n, .int .i64 10] (.str ⟨(Lib.itoa n).toArray⟩) := fun I F w vs h1 h2 => by
  obtain ⟨v, us, rfl, h3, v2, us2, rfl, h4, h5⟩ := h1
  have h3 : v = .int .i64 n := h3
  have h4 : v2 = .int .i64 10 := h4
  have h5 : us2 = [] := h5
  subst h3 h4 h5
  obtain ⟨ht, L, hL, hS⟩ := h2
  have hL : L = [] := hL
  subst hL
  refine Fn.ofCalls Tryz.func59 rfl (by decide) ?_
  exact (Tryz.strconv_FormatInt_10 n hn.1 hn.2 w (tab_up hT hS)).mono fun e w' ⟨he, k, os, hw⟩ => ⟨_, he, I, .str ⟨(Lib.itoa n).toArray⟩, [], .refl _, rfl, ⟨ht, [], rfl, by
    subst hw
    exact hS.more rfl rfl rfl (fun k hk => Array.getElem?_append_left hk)⟩, rfl⟩
def vname (f : PFunc) (v : Int) : ByteArray := (f.vars[v.toNat]?.map (·.name)).getD ⟨#[]⟩
def words1 (f : PFunc) (x : PInst) : List ByteArray := if 0 ≤ x.dst then [vname f x.dst, ⟨#[61]⟩] else []
def words2 (f : PFunc) (x : PInst) (k : Nat) : List ByteArray := words1 f x ++ [(kRow x.op).1] ++ (x.args.take k).map (vname f)
def wordsOf (f : PFunc) (x : PInst) : List ByteArray := words2 f x x.args.length ++ (if isNum x.op then [⟨(Lib.itoa x.num).toArray⟩] else [])
theorem words2_succ (f : PFunc) (x : PInst) {k : Nat} (h : k < x.args.length) : words2 f x (k + 1) = words2 f x k ++ [vname f x.args[k]] := by
  unfold words2; rw [List.take_succ_eq_append_getElem h, List.map_append]; simp only [List.append_assoc]; rfl
def instLine (f : PFunc) (x : PInst) : ByteArray := if instOK f x then joinS (wordsOf f x) ⟨#[32]⟩ else ⟨#[]⟩
theorem has_get {f : PFunc} {v : Int} (h : hasV f v = true) : ∃ (h : v.toNat < f.vars.length), f.vars[v.toNat]? = some f.vars[v.toNat] ∧ 0 ≤ v ∧ vname f v = f.vars[v.toNat].name := by
  have h2 : 0 ≤ v ∧ v < f.vars.length := by simpa [hasV] using h
  have h3 : v.toNat < f.vars.length := by omega
  exact ⟨h3, List.getElem?_eq_getElem h3, h2.1, by unfold vname; rw [List.getElem?_eq_getElem h3]; rfl⟩
theorem word_len (op : Int) : (kRow op).1.size ≤ 6 := by
  rcases kRow_mem op with h | h
  · rw [h]; decide
  · have : ∀ r ∈ kindT, r.1.size ≤ 6 := by decide
    exact this _ h
theorem vname_len {f : PFunc} (hnm : ∀ v ∈ f.vars, v.name.size ≤ 1000) (v : Int) : (vname f v).size ≤ 1000 := by
  unfold vname
  cases h : f.vars[v.toNat]? with
  | none => exact (by decide : (⟨#[]⟩ : ByteArray).size ≤ 1000)
  | some x => exact hnm x (List.mem_of_getElem? h)
end Go.Proofs.YtdkhlgiohpdihaaGreatDoor
namespace Go.Proofs.YtdkhlgiohpdihaaGreatDoor
section
variable {E : World} {P : Program} {env : AEnv} {O : OL} {d ty : Nat} {pos : String} {af : Array Edge} {x y : Operand} {t u e : TypeId}
theorem Gv.rem {k : IntKind} {a b : Int} (hx : aev env x = .int k a) (hy : aev env y = .int k b) (hb : b ≠ 0) : Gv P env O (Oper.mk (some d) (.binOp .rem t x y u) ty pos af none) (.int k (a.tmod b)) := Gv.ofEv fun I ρ h => ⟨_, rfl, fun w => by
  rw [run_bin_int (evI h hx) (evI h hy) (by decide) (by decide)]; simp [binOp, Op.intDiv, hb]⟩
theorem Gv.quo {k : IntKind} {a b : Int} (hx : aev env x = .int k a) (hy : aev env y = .int k b) (hb : b ≠ 0) : Gv P env O (Oper.mk (some d) (.binOp .quo t x y u) ty pos af none) (.int k (k.wrap (a.tdiv b))) := Gv.ofEv fun I ρ h => ⟨_, rfl, fun w => by
  rw [run_bin_int (evI h hx) (evI h hy) (by decide) (by decide)]; simp [binOp, Op.intDiv, hb]⟩
theorem Gv.neg {k : IntKind} {a : Int} (hx : aev env x = .int k a) : Gv P env O (Oper.mk (some d) (.unOp .neg t x) ty pos af none) (.int k (k.wrap (0 - a))) := Gv.ofEv fun I ρ h => ⟨_, rfl, fun w => by
  simp [execOp, evI h hx, Op.unary, Op.intArith]⟩
theorem Gv.conv {k k' : IntKind} {a : Int} {ds : TypeDesc} {src dst : TypeId} (hs : P.underlying src = some ds) (hd : P.underlying dst = some (.int k')) (hx : aev env x = .int k a) : Gv P env O (Oper.mk (some d) (.convert src dst x) ty pos af none) (.int k' (k'.wrap a)) := Gv.ofEv fun I ρ h => ⟨_, rfl, fun w => by
  simp only [execOp, evI h hx]
  cases ds <;> simp [convert, run_underlying hs, run_underlying hd, Conv.intToInt]⟩
def encU (n : Int) : List AV := [.int .u8 n]
theorem Gv.convBytes {ns : List Int} {src dst e : TypeId} (hs : P.underlying src = some (.slice e)) (he : P.underlying e = some (.int .u8)) (hd : P.underlying dst = some .string) (hx : aev env x = .fro 1 (ns.map encU)) :
    Gv P env O (Oper.mk (some d) (.convert src dst x) ty pos af none) (.str (strOfNums ns)) := fun I L E ρ h1 _ => by
  have h2 := h1.ev x
  rw [hx] at h2
  obtain ⟨a, n, c, e1, hn, hnc, hnil, hr⟩ := h2
  rw [List.length_map] at hn
  refine ⟨_, rfl, fun w J L' hl hS _ => ?_⟩
  simp only [execOp, e1]
  cases a with
  | none =>
    have hc := hnil rfl
    have : ns = [] := List.eq_nil_of_length_eq_zero (by omega)
    subst this
    have := run_convert_bytes_nil (P := P) w src e hs he n c dst hd
    rw [Sem.run_bind, this]; rfl
  | some p =>
    cases ns with
    | nil =>
      simp at hn; subst hn
      have h := run_convert_bytes_string (P := P) w src dst e (some p) 0 c hs he hd
      have h2 := run_bytesToString (P := P) w p 0 c [] (by simp [loadCells, loadCellsFrom])
      rw [Sem.run_bind, h, h2]; rfl
    | cons m ms =>
      obtain ⟨b, off, _, ep, _⟩ := hr.get (j := 0) (r := encU m) rfl
      cases ep
      have := run_convert_bytes_arg (P := P) w src e hs he b off n c (m :: ms) hn.symm (fun i hi => by
        obtain ⟨b', off', l, ep, hk, hl2, hat⟩ := hr.get (j := i) (r := encU ((m :: ms).getD i 0)) (by
          rw [List.getElem?_map, List.getElem?_eq_getElem (by omega)]
          simp [List.getD_eq_getElem?_getD, List.getElem?_eq_getElem (show i < (m :: ms).length by omega)])
        cases ep
        obtain ⟨v, us, rfl, hv, _⟩ := hl2
        have hv : v = .int .u8 ((m :: ms).getD i 0) := hv
        subst hv
        have := hS.at_ (((hat 0 _ rfl).mono hl).at_ _)
        simpa using this) dst hd
      rw [Sem.run_bind, this]; rfl
end
end Go.Proofs.YtdkhlgiohpdihaaGreatDoor
namespace Go.Proofs.YtdkhlgiohpdihaaGreatDoor
section
variable {E : World} {P : Program} {n : Nat} {l : List Oper} {W : Nat → Bool} {Q : AEnv → OL → Prop} {fuel : Nat} {listed : Array Bool} {env : AEnv} {O Os Om : OL}
theorem AAny.two {i j : Nat} {o o' : Oper} (hi : l[i]? = some o) (hj : l[j]? = some o') (hr : Region.ready .any l.toArray listed = [i, j])
    (h : AOps P E l.toArray (fun env' Om' => AAny P E l W Q fuel (listed.setIfInBounds i true) env' Os Om') [o] env Om)
    (h' : AOps P E l.toArray (fun env' Om' => AAny P E l W Q fuel (listed.setIfInBounds j true) env' Os Om') [o'] env Om) : AAny P E l W Q (fuel + 1) listed env Os Om := fun I F ρ w Ls h1 hLs h2 => by
  have key : ∀ k ok, AOps P E l.toArray (fun env' Om' => AAny P E l W Q fuel (listed.setIfInBounds k true) env' Os Om') [ok] env Om →
      Ops P l.toArray (fun ρ' w' => (stays I.k [] E w' ∧ (dirty W (listed.setIfInBounds k true) ∨ stays I.k Ls E w')) ∧ AnyV P l.toArray (stays I.k [] E) (stays I.k Ls E) W (postK I F E Q) fuel (listed.setIfInBounds k true) ρ' w') [ok] ρ w := fun k ok h =>
    Ops.mono (fun ρ' w' ⟨J, env', Om', a, b, c, d⟩ => by
      have hst : stays I.k Ls E w' := by
        obtain ⟨J', L', h3, h4, h5⟩ := c.here
        exact ⟨J', L', a.k.trans h3, h4, h5⟩
      refine ⟨⟨hst.less, .inr hst⟩, AnyV.mono ?_ ?_ (fun _ _ => postK.up a) _ _ _ _ (d J F ρ' w' Ls b (hLs.mono a) c)⟩
      · rintro w ⟨J', L', h3, h4⟩; exact ⟨J', L', a.k.trans h3, h4⟩
      · rintro w ⟨J', L', h3, h4⟩; exact ⟨J', L', a.k.trans h3, h4⟩) _ _ _ (h I (Ls ++ F) ρ w h1 h2)
  refine ⟨fun h0 => (by rw [hr] at h0; cases h0), fun k hk o2 ho2 => ?_⟩
  rw [hr] at hk
  simp only [List.mem_cons, List.not_mem_nil, or_false] at hk
  rw [List.getElem?_toArray] at ho2
  rcases hk with rfl | rfl
  · rw [hi] at ho2; cases ho2; exact key _ _ h
  · rw [hj] at ho2; cases ho2; exact key _ _ h'
end
end Go.Proofs.YtdkhlgiohpdihaaGreatDoor
namespace Go.Proofs.YtdkhlgiohpdihaaGreatDoor
section
variable {E : World} {P : Program} {n : Nat} {l : List Oper} {W : Nat → Bool} {Q : AEnv → OL → Prop} {fuel : Nat} {listed : Array Bool} {env : AEnv} {O Os Om : OL}
end
theorem ACall.know {E : World} {P : Program} {f : FuncId} {as0 : List AV} {O : OL} {R R' : AV → OL → Prop} (h : ACall P E f as0 O R) (hr : ∀ I F w v x O', R x O' → RepV I x v → SLA I O' F E w → ∃ J y O'', I.le J ∧ RepV J y v ∧ SLA J O'' F E w ∧ R' y O'') : ACall P E f as0 O R' := fun I F w vs h1 h2 =>
  (h I F w vs h1 h2).mono fun v w' ⟨J, x, O', a, b, c, d⟩ => by
    obtain ⟨K, y, O'', e1, e2, e3, e4⟩ := hr J F w' v x O' d b c
    exact ⟨K, y, O'', a.trans e1, e2, e3, e4⟩
theorem Put.has {O O' : OL} {i : Nat} {o o' : AObj} (h : Put O i o o' O') : Has O i o := by
  induction h with
  | head => exact .head
  | tail _ ih => exact ih.tail
end Go.Proofs.YtdkhlgiohpdihaaGreatDoor
namespace Go.Proofs.YtdkhlgiohpdihaaGreatDoor
open Go.Proofs Go.Lib Go.Shelf Go.RowKit
theorem pl116 : Places Tryz.prog 116 #[(0, 1), (1, 1), (2, 1)] [.str ⟨#[]⟩, .str ⟨#[]⟩, .str ⟨#[]⟩] := ⟨_, _, Tryz.underlying116, Tryz.zeroValue116, fun w => by kernel_rfl, rfl⟩
theorem ps117_27 : PlacesS Tryz.prog 117 116 27 3 [.str ⟨#[]⟩, .str ⟨#[]⟩, .str ⟨#[]⟩, .str ⟨#[]⟩, .str ⟨#[]⟩, .str ⟨#[]⟩, .str ⟨#[]⟩, .str ⟨#[]⟩, .str ⟨#[]⟩, .str ⟨#[]⟩, .str ⟨#[]⟩, .str ⟨#[]⟩, .str ⟨#[]⟩, .str ⟨#[]⟩, .str ⟨#[]⟩, .str ⟨#[]⟩, .str ⟨#[]⟩, .str ⟨#[]⟩, .str ⟨#[]⟩, .str ⟨#[]⟩, .str ⟨#[]⟩, .str ⟨#[]⟩, .str ⟨#[]⟩, .str ⟨#[]⟩, .str ⟨#[]⟩, .str ⟨#[]⟩, .str ⟨#[]⟩, .str ⟨#[]⟩, .str ⟨#[]⟩, .str ⟨#[]⟩, .str ⟨#[]⟩, .str ⟨#[]⟩, .str ⟨#[]⟩, .str ⟨#[]⟩, .str ⟨#[]⟩, .str ⟨#[]⟩, .str ⟨#[]⟩, .str ⟨#[]⟩, .str ⟨#[]⟩, .str ⟨#[]⟩, .str ⟨#[]⟩, .str ⟨#[]⟩, .str ⟨#[]⟩, .str ⟨#[]⟩, .str ⟨#[]⟩, .str ⟨#[]⟩, .str ⟨#[]⟩, .str ⟨#[]⟩, .str ⟨#[]⟩, .str ⟨#[]⟩, .str ⟨#[]⟩, .str ⟨#[]⟩, .str ⟨#[]⟩, .str ⟨#[]⟩, .str ⟨#[]⟩, .str ⟨#[]⟩, .str ⟨#[]⟩, .str ⟨#[]⟩, .str ⟨#[]⟩, .str ⟨#[]⟩, .str ⟨#[]⟩, .str ⟨#[]⟩, .str ⟨#[]⟩, .str ⟨#[]⟩, .str ⟨#[]⟩, .str ⟨#[]⟩, .str ⟨#[]⟩, .str ⟨#[]⟩, .str ⟨#[]⟩, .str ⟨#[]⟩, .str ⟨#[]⟩, .str ⟨#[]⟩, .str ⟨#[]⟩, .str ⟨#[]⟩, .str ⟨#[]⟩, .str ⟨#[]⟩, .str ⟨#[]⟩, .str ⟨#[]⟩, .str ⟨#[]⟩, .str ⟨#[]⟩, .str ⟨#[]⟩] := ⟨_, Tryz.underlying117, Tryz.sizeOf116, Tryz.zeroValue116, by decide, by decide, by kernel_rfl⟩
theorem ps75_1 : PlacesS Tryz.prog 75 5 1 1 [.int .u8 0] := ⟨_, Tryz.underlying75, Tryz.sizeOf5, Tryz.zeroValue5, by decide, by decide, by kernel_rfl⟩
set_option maxRecDepth 20000
variable {E : World}
def Letters (E : World) : Prop := Lib.TabIs Tryz.prog E "unicode.properties" .u8 Lib.propertiesTab ∧ RVar 3 letterT E
theorem letter_spec (c : Int) (h1 : -2147483648 ≤ c) (h2 : c ≤ 2147483647) (hL : Letters E) : AFun Tryz.prog E 84 [.int .i32 c] (.bool (isLetterU c)) :=
  AFun.ofBelow (vs := [.int .i32 c]) (r := .bool (isLetterU c)) Tryz.func84 rfl (by decide) rfl fun w hw => Tryz.unicode_IsLetter_all c w h1 h2 (TabIs_below (g := 2) (by kernel_rfl) hL.1 hw) (RVar_below hL.2 hw)
theorem decode_ok (s : ByteArray) (p : Nat) : 1 ≤ (Utf8.decode s p).2 ∧ (Utf8.decode s p).1 ≤ 2097151 := by
  have h256 : ∀ k, (s.get! k).toNat < 256 := fun k => (s.get! k).toNat_lt
  unfold Utf8.decode
  dsimp only
  constructor
  · repeat' split
    all_goals simp
  · have h0 := h256 (p + 0)
    have h1 := h256 (p + 1)
    have h2 := h256 (p + 2)
    have h3 := h256 (p + 3)
    repeat' split
    all_goals (simp only [Utf8.runeError]; omega)
def okRune (c : Int) (n : Nat) : Bool := (isLetterU c && !decide (c = 65533)) || (!decide ((n : Int) = 0) && ((decide (48 ≤ c) && decide (c ≤ 57)) || decide (c = 46) || decide (c = 95)))
def nameFrom (s : ByteArray) (p n : Nat) : Bool :=
  if h : p < s.size then (if okRune (Utf8.decode s p).1 n then nameFrom s (p + (Utf8.decode s p).2) (n + 1) else false) else decide ((1 : Int) ≤ n) && decide ((n : Int) ≤ 16)
termination_by s.size - p
decreasing_by have := (decode_ok s p).1; omega
def nameB (s : ByteArray) : Bool := nameFrom s 0 0
theorem name_spec (s : ByteArray) (hs : s.size ≤ 140737488355328) (hL : Letters E) : AFun Tryz.prog E 53 [.str s] (.bool (nameB s)) := by
  refine ACall.intro Tryz.func53 rfl (by decide) rfl ?_
  refine AWP.seq ?_
  refine AWP.region rfl ?_
  refine AOps.val (Gv.assign (v := .bool _) rfl) ?_
  refine AOps.nil ?_
  refine AWP.seq ?_
  refine AWP.region rfl ?_
  refine AOps.val (Gv.assign (v := .int _ _) rfl) ?_
  refine AOps.nil ?_
  refine AWP.seq ?_
  refine AWP.seq ?_
  refine AWP.region rfl ?_
  refine AOps.val (Gv.move (v := .str _) rfl) ?_
  refine AOps.rangeT Tryz.underlying9 rfl ?_
  intro i8
  refine AOps.nil ?_
  refine AWP.block ?_
  refine AWP.loop (γ := Nat × Nat) [8] (fun g => [(3, .int .i64 g.2)]) (fun g => [(i8, .iter s g.1)]) (fun g => nameFrom s g.1 g.2 = nameB s ∧ g.2 ≤ g.1 ∧ g.2 ≤ s.size) (fun g => s.size - g.1) (0, 0) ⟨rfl, trivial⟩ ⟨_, (.refl _), rfl⟩ (⟨rfl, Nat.le_refl _, Nat.zero_le _⟩) ?_
  rintro ⟨p, n⟩ ⟨hp, hn, hn2⟩
  try dsimp only at *
  by_cases hlt : p < s.size
  · skip
    obtain ⟨hd1, hd2⟩ := decode_ok s p
    have hstep := hp
    rw [nameFrom, dif_pos hlt] at hstep
    refine AWP.seq ?_
    refine AWP.region rfl ?_
    refine AOps.nextT rfl .head hlt ?_
    refine AOps.val (Gv.extract (v := .bool _) rfl rfl) ?_
    refine AOps.nil ?_
    refine AWP.seq ?_
    refine AWP.condT rfl rfl ?_
    refine AWP.skip ?_
    refine AWP.block ?_
    refine AWP.seq ?_
    refine AWP.region rfl ?_
    refine AOps.val (Gv.extract (v := .int _ _) rfl rfl) ?_
    refine AOps.val (Gv.assign (v := .int _ _) rfl) ?_
    refine AOps.nil ?_
    refine AWP.seq ?_
    refine AWP.region rfl ?_
    refine AOps.val (Gv.move (v := .int _ _) rfl) ?_
    refine AOps.callP (letter_spec _ (by omega) (by omega) hL) rfl ?_
    refine AOps.val (Gv.move (v := .bool _) rfl) ?_
    refine AOps.case (s := 14) rfl (fun c1 => ?_) (fun c1 => ?_)
    · skip
      refine AOps.guardT rfl rfl c1 ?_
      refine AOps.val (Gv.move (v := .int _ _) rfl) ?_
      refine AOps.guardT rfl rfl c1 ?_
      refine AOps.val (Gv.neqI rfl rfl) ?_
      refine AOps.val (Gv.pickT (v := .bool _) rfl c1 rfl) ?_
      refine AOps.val (Gv.assign (v := .bool _) rfl) ?_
      refine AOps.nil ?_
      refine AWP.seq ?_
      refine AWP.seq ?_
      refine AWP.region rfl ?_
      refine AOps.val (Gv.move (v := .bool _) rfl) ?_
      refine AOps.val (Gv.not rfl) ?_
      refine AOps.val (Gv.move (v := .bool _) rfl) ?_
      refine AOps.case (s := 20) rfl (fun c2 => ?_) (fun c2 => ?_)
      · skip
        refine AOps.guardT rfl rfl c2 ?_
        refine AOps.val (Gv.move (v := .int _ _) rfl) ?_
        refine AOps.guardT rfl rfl c2 ?_
        refine AOps.val (Gv.eqlI rfl rfl) ?_
        refine AOps.guardT rfl rfl c2 ?_
        refine AOps.val (Gv.move (v := .bool _) rfl) ?_
        refine AOps.case (s := 23) rfl (fun c3 => ?_) (fun c3 => ?_)
        · skip
          refine AOps.guardFd rfl rfl c3 ?_
          refine AOps.guardFd rfl rfl c3 ?_
          refine AOps.guardFd rfl rfl c3 ?_
          refine AOps.guardUd rfl rfl ?_
          refine AOps.guardUd rfl rfl ?_
          refine AOps.guardFd rfl rfl c3 ?_
          refine AOps.guardFd rfl rfl c3 ?_
          refine AOps.guardFd rfl rfl c3 ?_
          refine AOps.guardUd rfl rfl ?_
          refine AOps.guardUd rfl rfl ?_
          refine AOps.guardFd rfl rfl c3 ?_
          refine AOps.guardFd rfl rfl c3 ?_
          refine AOps.guardUd rfl rfl ?_
          refine AOps.guardUd rfl rfl ?_
          refine AOps.guardFd rfl rfl c3 ?_
          refine AOps.guardT rfl rfl c2 ?_
          refine AOps.val (Gv.pickT (v := .bool _) rfl c3 rfl) ?_
          refine AOps.val (Gv.pickT (v := .bool _) rfl c2 rfl) ?_
          refine AOps.nil ?_
          refine AWP.condT rfl rfl ?_
          refine AWP.seq ?_
          refine AWP.region rfl ?_
          refine AOps.val (Gv.assign (v := .bool _) rfl) ?_
          refine AOps.nil ?_
          refine AWP.ret ?_
          repeat (first | refine aseqQ_ret ?_ | refine ablockQ_ret ?_)
          refine afin.t1 (x := .bool _) rfl ?_
          rw [if_neg (by simp_all [okRune] <;> omega)] at hstep; exact jb hstep
        · skip
          refine AOps.guardT rfl rfl c3 ?_
          refine AOps.val (Gv.move (v := .int _ _) rfl) ?_
          refine AOps.guardT rfl rfl c3 ?_
          refine AOps.val (Gv.geq rfl rfl) ?_
          refine AOps.guardT rfl rfl c3 ?_
          refine AOps.val (Gv.move (v := .bool _) rfl) ?_
          refine AOps.case (s := 26) rfl (fun c4 => ?_) (fun c4 => ?_)
          · skip
            refine AOps.guardT rfl rfl c4 ?_
            refine AOps.val (Gv.move (v := .int _ _) rfl) ?_
            refine AOps.guardT rfl rfl c4 ?_
            refine AOps.val (Gv.leq rfl rfl) ?_
            refine AOps.guardT rfl rfl c3 ?_
            refine AOps.val (Gv.pickT (v := .bool _) rfl c4 rfl) ?_
            refine AOps.guardT rfl rfl c3 ?_
            refine AOps.val (Gv.not rfl) ?_
            refine AOps.guardT rfl rfl c3 ?_
            refine AOps.val (Gv.move (v := .bool _) rfl) ?_
            refine AOps.case (s := 31) rfl (fun c5 => ?_) (fun c5 => ?_)
            · skip
              refine AOps.guardT rfl rfl c5 ?_
              refine AOps.val (Gv.move (v := .int _ _) rfl) ?_
              refine AOps.guardT rfl rfl c5 ?_
              refine AOps.val (Gv.neqI rfl rfl) ?_
              refine AOps.guardT rfl rfl c3 ?_
              refine AOps.val (Gv.pickT (v := .bool _) rfl c5 rfl) ?_
              refine AOps.guardT rfl rfl c3 ?_
              refine AOps.val (Gv.move (v := .bool _) rfl) ?_
              refine AOps.case (s := 35) rfl (fun c6 => ?_) (fun c6 => ?_)
              · skip
                refine AOps.guardT rfl rfl c6 ?_
                refine AOps.val (Gv.move (v := .int _ _) rfl) ?_
                refine AOps.guardT rfl rfl c6 ?_
                refine AOps.val (Gv.neqI rfl rfl) ?_
                refine AOps.guardT rfl rfl c3 ?_
                refine AOps.val (Gv.pickT (v := .bool _) rfl c6 rfl) ?_
                refine AOps.guardT rfl rfl c2 ?_
                refine AOps.val (Gv.pickF (v := .bool _) rfl c3 rfl) ?_
                refine AOps.val (Gv.pickT (v := .bool _) rfl c2 rfl) ?_
                refine AOps.nil ?_
                refine AWP.cond rfl (fun c7 => ?_) (fun c7 => ?_)
                · skip
                  refine AWP.seq ?_
                  refine AWP.region rfl ?_
                  refine AOps.val (Gv.assign (v := .bool _) rfl) ?_
                  refine AOps.nil ?_
                  refine AWP.ret ?_
                  repeat (first | refine aseqQ_ret ?_ | refine ablockQ_ret ?_)
                  refine afin.t1 (x := .bool _) rfl ?_
                  rw [if_neg (by simp_all [okRune] <;> omega)] at hstep; exact jb hstep
                · skip
                  refine AWP.skip ?_
                  refine AWP.region rfl ?_
                  refine AOps.val (Gv.move (v := .int _ _) rfl) ?_
                  refine AOps.val (Gv.add rfl rfl (by unfold I64; omega)) ?_
                  refine AOps.val (Gv.assign (v := .int _ _) rfl) ?_
                  refine AOps.nil ?_
                  exact ⟨(p + (Utf8.decode s p).2, n + 1), ⟨rfl, trivial⟩, ⟨rfl, trivial⟩, ⟨_, (.refl _), rfl⟩, ⟨by rw [if_pos (by simp_all [okRune] <;> omega)] at hstep; exact hstep, by dsimp only; omega, by dsimp only; omega⟩, by dsimp only; omega⟩
              · skip
                refine AOps.guardFd rfl rfl c6 ?_
                refine AOps.guardFd rfl rfl c6 ?_
                refine AOps.guardT rfl rfl c3 ?_
                refine AOps.val (Gv.pickF (v := .bool _) rfl c6 rfl) ?_
                refine AOps.guardT rfl rfl c2 ?_
                refine AOps.val (Gv.pickF (v := .bool _) rfl c3 rfl) ?_
                refine AOps.val (Gv.pickT (v := .bool _) rfl c2 rfl) ?_
                refine AOps.nil ?_
                refine AWP.condF rfl rfl ?_
                refine AWP.skip ?_
                refine AWP.region rfl ?_
                refine AOps.val (Gv.move (v := .int _ _) rfl) ?_
                refine AOps.val (Gv.add rfl rfl (by unfold I64; omega)) ?_
                refine AOps.val (Gv.assign (v := .int _ _) rfl) ?_
                refine AOps.nil ?_
                exact ⟨(p + (Utf8.decode s p).2, n + 1), ⟨rfl, trivial⟩, ⟨rfl, trivial⟩, ⟨_, (.refl _), rfl⟩, ⟨by rw [if_pos (by simp_all [okRune] <;> omega)] at hstep; exact hstep, by dsimp only; omega, by dsimp only; omega⟩, by dsimp only; omega⟩
            · skip
              refine AOps.guardFd rfl rfl c5 ?_
              refine AOps.guardFd rfl rfl c5 ?_
              refine AOps.guardT rfl rfl c3 ?_
              refine AOps.val (Gv.pickF (v := .bool _) rfl c5 rfl) ?_
              refine AOps.guardT rfl rfl c3 ?_
              refine AOps.val (Gv.move (v := .bool _) rfl) ?_
              refine AOps.guardFd rfl rfl rfl ?_
              refine AOps.guardFd rfl rfl rfl ?_
              refine AOps.guardT rfl rfl c3 ?_
              refine AOps.val (Gv.pickF (v := .bool _) rfl rfl rfl) ?_
              refine AOps.guardT rfl rfl c2 ?_
              refine AOps.val (Gv.pickF (v := .bool _) rfl c3 rfl) ?_
              refine AOps.val (Gv.pickT (v := .bool _) rfl c2 rfl) ?_
              refine AOps.nil ?_
              refine AWP.condF rfl rfl ?_
              refine AWP.skip ?_
              refine AWP.region rfl ?_
              refine AOps.val (Gv.move (v := .int _ _) rfl) ?_
              refine AOps.val (Gv.add rfl rfl (by unfold I64; omega)) ?_
              refine AOps.val (Gv.assign (v := .int _ _) rfl) ?_
              refine AOps.nil ?_
              exact ⟨(p + (Utf8.decode s p).2, n + 1), ⟨rfl, trivial⟩, ⟨rfl, trivial⟩, ⟨_, (.refl _), rfl⟩, ⟨by rw [if_pos (by simp_all [okRune] <;> omega)] at hstep; exact hstep, by dsimp only; omega, by dsimp only; omega⟩, by dsimp only; omega⟩
          · skip
            refine AOps.guardFd rfl rfl c4 ?_
            refine AOps.guardFd rfl rfl c4 ?_
            refine AOps.guardT rfl rfl c3 ?_
            refine AOps.val (Gv.pickF (v := .bool _) rfl c4 rfl) ?_
            refine AOps.guardT rfl rfl c3 ?_
            refine AOps.val (Gv.not rfl) ?_
            refine AOps.guardT rfl rfl c3 ?_
            refine AOps.val (Gv.move (v := .bool _) rfl) ?_
            refine AOps.guardT rfl rfl rfl ?_
            refine AOps.val (Gv.move (v := .int _ _) rfl) ?_
            refine AOps.guardT rfl rfl rfl ?_
            refine AOps.val (Gv.neqI rfl rfl) ?_
            refine AOps.guardT rfl rfl c3 ?_
            refine AOps.val (Gv.pickT (v := .bool _) rfl rfl rfl) ?_
            refine AOps.guardT rfl rfl c3 ?_
            refine AOps.val (Gv.move (v := .bool _) rfl) ?_
            refine AOps.case (s := 35) rfl (fun c8 => ?_) (fun c8 => ?_)
            · skip
              refine AOps.guardT rfl rfl c8 ?_
              refine AOps.val (Gv.move (v := .int _ _) rfl) ?_
              refine AOps.guardT rfl rfl c8 ?_
              refine AOps.val (Gv.neqI rfl rfl) ?_
              refine AOps.guardT rfl rfl c3 ?_
              refine AOps.val (Gv.pickT (v := .bool _) rfl c8 rfl) ?_
              refine AOps.guardT rfl rfl c2 ?_
              refine AOps.val (Gv.pickF (v := .bool _) rfl c3 rfl) ?_
              refine AOps.val (Gv.pickT (v := .bool _) rfl c2 rfl) ?_
              refine AOps.nil ?_
              refine AWP.cond rfl (fun c9 => ?_) (fun c9 => ?_)
              · skip
                refine AWP.seq ?_
                refine AWP.region rfl ?_
                refine AOps.val (Gv.assign (v := .bool _) rfl) ?_
                refine AOps.nil ?_
                refine AWP.ret ?_
                repeat (first | refine aseqQ_ret ?_ | refine ablockQ_ret ?_)
                refine afin.t1 (x := .bool _) rfl ?_
                rw [if_neg (by simp_all [okRune] <;> omega)] at hstep; exact jb hstep
              · skip
                refine AWP.skip ?_
                refine AWP.region rfl ?_
                refine AOps.val (Gv.move (v := .int _ _) rfl) ?_
                refine AOps.val (Gv.add rfl rfl (by unfold I64; omega)) ?_
                refine AOps.val (Gv.assign (v := .int _ _) rfl) ?_
                refine AOps.nil ?_
                exact ⟨(p + (Utf8.decode s p).2, n + 1), ⟨rfl, trivial⟩, ⟨rfl, trivial⟩, ⟨_, (.refl _), rfl⟩, ⟨by rw [if_pos (by simp_all [okRune] <;> omega)] at hstep; exact hstep, by dsimp only; omega, by dsimp only; omega⟩, by dsimp only; omega⟩
            · skip
              refine AOps.guardFd rfl rfl c8 ?_
              refine AOps.guardFd rfl rfl c8 ?_
              refine AOps.guardT rfl rfl c3 ?_
              refine AOps.val (Gv.pickF (v := .bool _) rfl c8 rfl) ?_
              refine AOps.guardT rfl rfl c2 ?_
              refine AOps.val (Gv.pickF (v := .bool _) rfl c3 rfl) ?_
              refine AOps.val (Gv.pickT (v := .bool _) rfl c2 rfl) ?_
              refine AOps.nil ?_
              refine AWP.condF rfl rfl ?_
              refine AWP.skip ?_
              refine AWP.region rfl ?_
              refine AOps.val (Gv.move (v := .int _ _) rfl) ?_
              refine AOps.val (Gv.add rfl rfl (by unfold I64; omega)) ?_
              refine AOps.val (Gv.assign (v := .int _ _) rfl) ?_
              refine AOps.nil ?_
              exact ⟨(p + (Utf8.decode s p).2, n + 1), ⟨rfl, trivial⟩, ⟨rfl, trivial⟩, ⟨_, (.refl _), rfl⟩, ⟨by rw [if_pos (by simp_all [okRune] <;> omega)] at hstep; exact hstep, by dsimp only; omega, by dsimp only; omega⟩, by dsimp only; omega⟩
      · skip
        refine AOps.guardFd rfl rfl c2 ?_
        refine AOps.guardFd rfl rfl c2 ?_
        refine AOps.guardFd rfl rfl c2 ?_
        refine AOps.guardUd rfl rfl ?_
        refine AOps.guardUd rfl rfl ?_
        refine AOps.guardUd rfl rfl ?_
        refine AOps.guardUd rfl rfl ?_
        refine AOps.guardUd rfl rfl ?_
        refine AOps.guardUd rfl rfl ?_
        refine AOps.guardUd rfl rfl ?_
        refine AOps.guardUd rfl rfl ?_
        refine AOps.guardUd rfl rfl ?_
        refine AOps.guardUd rfl rfl ?_
        refine AOps.guardUd rfl rfl ?_
        refine AOps.guardUd rfl rfl ?_
        refine AOps.guardUd rfl rfl ?_
        refine AOps.guardUd rfl rfl ?_
        refine AOps.guardUd rfl rfl ?_
        refine AOps.guardFd rfl rfl c2 ?_
        refine AOps.val (Gv.pickF (v := .bool _) rfl c2 rfl) ?_
        refine AOps.nil ?_
        refine AWP.condF rfl rfl ?_
        refine AWP.skip ?_
        refine AWP.region rfl ?_
        refine AOps.val (Gv.move (v := .int _ _) rfl) ?_
        refine AOps.val (Gv.add rfl rfl (by unfold I64; omega)) ?_
        refine AOps.val (Gv.assign (v := .int _ _) rfl) ?_
        refine AOps.nil ?_
        exact ⟨(p + (Utf8.decode s p).2, n + 1), ⟨rfl, trivial⟩, ⟨rfl, trivial⟩, ⟨_, (.refl _), rfl⟩, ⟨by rw [if_pos (by simp_all [okRune] <;> omega)] at hstep; exact hstep, by dsimp only; omega, by dsimp only; omega⟩, by dsimp only; omega⟩
    · skip
      refine AOps.guardFd rfl rfl c1 ?_
      refine AOps.guardFd rfl rfl c1 ?_
      refine AOps.val (Gv.pickF (v := .bool _) rfl c1 rfl) ?_
      refine AOps.val (Gv.assign (v := .bool _) rfl) ?_
      refine AOps.nil ?_
      refine AWP.seq ?_
      refine AWP.seq ?_
      refine AWP.region rfl ?_
      refine AOps.val (Gv.move (v := .bool _) rfl) ?_
      refine AOps.val (Gv.not rfl) ?_
      refine AOps.val (Gv.move (v := .bool _) rfl) ?_
      refine AOps.guardT rfl rfl rfl ?_
      refine AOps.val (Gv.move (v := .int _ _) rfl) ?_
      refine AOps.guardT rfl rfl rfl ?_
      refine AOps.val (Gv.eqlI rfl rfl) ?_
      refine AOps.guardT rfl rfl rfl ?_
      refine AOps.val (Gv.move (v := .bool _) rfl) ?_
      refine AOps.case (s := 23) rfl (fun c10 => ?_) (fun c10 => ?_)
      · skip
        refine AOps.guardFd rfl rfl c10 ?_
        refine AOps.guardFd rfl rfl c10 ?_
        refine AOps.guardFd rfl rfl c10 ?_
        refine AOps.guardUd rfl rfl ?_
        refine AOps.guardUd rfl rfl ?_
        refine AOps.guardFd rfl rfl c10 ?_
        refine AOps.guardFd rfl rfl c10 ?_
        refine AOps.guardFd rfl rfl c10 ?_
        refine AOps.guardUd rfl rfl ?_
        refine AOps.guardUd rfl rfl ?_
        refine AOps.guardFd rfl rfl c10 ?_
        refine AOps.guardFd rfl rfl c10 ?_
        refine AOps.guardUd rfl rfl ?_
        refine AOps.guardUd rfl rfl ?_
        refine AOps.guardFd rfl rfl c10 ?_
        refine AOps.guardT rfl rfl rfl ?_
        refine AOps.val (Gv.pickT (v := .bool _) rfl c10 rfl) ?_
        refine AOps.val (Gv.pickT (v := .bool _) rfl rfl rfl) ?_
        refine AOps.nil ?_
        refine AWP.condT rfl rfl ?_
        refine AWP.seq ?_
        refine AWP.region rfl ?_
        refine AOps.val (Gv.assign (v := .bool _) rfl) ?_
        refine AOps.nil ?_
        refine AWP.ret ?_
        repeat (first | refine aseqQ_ret ?_ | refine ablockQ_ret ?_)
        refine afin.t1 (x := .bool _) rfl ?_
        rw [if_neg (by simp_all [okRune] <;> omega)] at hstep; exact jb hstep
      · skip
        refine AOps.guardT rfl rfl c10 ?_
        refine AOps.val (Gv.move (v := .int _ _) rfl) ?_
        refine AOps.guardT rfl rfl c10 ?_
        refine AOps.val (Gv.geq rfl rfl) ?_
        refine AOps.guardT rfl rfl c10 ?_
        refine AOps.val (Gv.move (v := .bool _) rfl) ?_
        refine AOps.case (s := 26) rfl (fun c11 => ?_) (fun c11 => ?_)
        · skip
          refine AOps.guardT rfl rfl c11 ?_
          refine AOps.val (Gv.move (v := .int _ _) rfl) ?_
          refine AOps.guardT rfl rfl c11 ?_
          refine AOps.val (Gv.leq rfl rfl) ?_
          refine AOps.guardT rfl rfl c10 ?_
          refine AOps.val (Gv.pickT (v := .bool _) rfl c11 rfl) ?_
          refine AOps.guardT rfl rfl c10 ?_
          refine AOps.val (Gv.not rfl) ?_
          refine AOps.guardT rfl rfl c10 ?_
          refine AOps.val (Gv.move (v := .bool _) rfl) ?_
          refine AOps.case (s := 31) rfl (fun c12 => ?_) (fun c12 => ?_)
          · skip
            refine AOps.guardT rfl rfl c12 ?_
            refine AOps.val (Gv.move (v := .int _ _) rfl) ?_
            refine AOps.guardT rfl rfl c12 ?_
            refine AOps.val (Gv.neqI rfl rfl) ?_
            refine AOps.guardT rfl rfl c10 ?_
            refine AOps.val (Gv.pickT (v := .bool _) rfl c12 rfl) ?_
            refine AOps.guardT rfl rfl c10 ?_
            refine AOps.val (Gv.move (v := .bool _) rfl) ?_
            refine AOps.case (s := 35) rfl (fun c13 => ?_) (fun c13 => ?_)
            · skip
              refine AOps.guardT rfl rfl c13 ?_
              refine AOps.val (Gv.move (v := .int _ _) rfl) ?_
              refine AOps.guardT rfl rfl c13 ?_
              refine AOps.val (Gv.neqI rfl rfl) ?_
              refine AOps.guardT rfl rfl c10 ?_
              refine AOps.val (Gv.pickT (v := .bool _) rfl c13 rfl) ?_
              refine AOps.guardT rfl rfl rfl ?_
              refine AOps.val (Gv.pickF (v := .bool _) rfl c10 rfl) ?_
              refine AOps.val (Gv.pickT (v := .bool _) rfl rfl rfl) ?_
              refine AOps.nil ?_
              refine AWP.cond rfl (fun c14 => ?_) (fun c14 => ?_)
              · skip
                refine AWP.seq ?_
                refine AWP.region rfl ?_
                refine AOps.val (Gv.assign (v := .bool _) rfl) ?_
                refine AOps.nil ?_
                refine AWP.ret ?_
                repeat (first | refine aseqQ_ret ?_ | refine ablockQ_ret ?_)
                refine afin.t1 (x := .bool _) rfl ?_
                rw [if_neg (by simp_all [okRune] <;> omega)] at hstep; exact jb hstep
              · skip
                refine AWP.skip ?_
                refine AWP.region rfl ?_
                refine AOps.val (Gv.move (v := .int _ _) rfl) ?_
                refine AOps.val (Gv.add rfl rfl (by unfold I64; omega)) ?_
                refine AOps.val (Gv.assign (v := .int _ _) rfl) ?_
                refine AOps.nil ?_
                exact ⟨(p + (Utf8.decode s p).2, n + 1), ⟨rfl, trivial⟩, ⟨rfl, trivial⟩, ⟨_, (.refl _), rfl⟩, ⟨by rw [if_pos (by simp_all [okRune] <;> omega)] at hstep; exact hstep, by dsimp only; omega, by dsimp only; omega⟩, by dsimp only; omega⟩
            · skip
              refine AOps.guardFd rfl rfl c13 ?_
              refine AOps.guardFd rfl rfl c13 ?_
              refine AOps.guardT rfl rfl c10 ?_
              refine AOps.val (Gv.pickF (v := .bool _) rfl c13 rfl) ?_
              refine AOps.guardT rfl rfl rfl ?_
              refine AOps.val (Gv.pickF (v := .bool _) rfl c10 rfl) ?_
              refine AOps.val (Gv.pickT (v := .bool _) rfl rfl rfl) ?_
              refine AOps.nil ?_
              refine AWP.condF rfl rfl ?_
              refine AWP.skip ?_
              refine AWP.region rfl ?_
              refine AOps.val (Gv.move (v := .int _ _) rfl) ?_
              refine AOps.val (Gv.add rfl rfl (by unfold I64; omega)) ?_
              refine AOps.val (Gv.assign (v := .int _ _) rfl) ?_
              refine AOps.nil ?_
              exact ⟨(p + (Utf8.decode s p).2, n + 1), ⟨rfl, trivial⟩, ⟨rfl, trivial⟩, ⟨_, (.refl _), rfl⟩, ⟨by rw [if_pos (by simp_all [okRune] <;> omega)] at hstep; exact hstep, by dsimp only; omega, by dsimp only; omega⟩, by dsimp only; omega⟩
          · skip
            refine AOps.guardFd rfl rfl c12 ?_
            refine AOps.guardFd rfl rfl c12 ?_
            refine AOps.guardT rfl rfl c10 ?_
            refine AOps.val (Gv.pickF (v := .bool _) rfl c12 rfl) ?_
            refine AOps.guardT rfl rfl c10 ?_
            refine AOps.val (Gv.move (v := .bool _) rfl) ?_
            refine AOps.guardFd rfl rfl rfl ?_
            refine AOps.guardFd rfl rfl rfl ?_
            refine AOps.guardT rfl rfl c10 ?_
            refine AOps.val (Gv.pickF (v := .bool _) rfl rfl rfl) ?_
            refine AOps.guardT rfl rfl rfl ?_
            refine AOps.val (Gv.pickF (v := .bool _) rfl c10 rfl) ?_
            refine AOps.val (Gv.pickT (v := .bool _) rfl rfl rfl) ?_
            refine AOps.nil ?_
            refine AWP.condF rfl rfl ?_
            refine AWP.skip ?_
            refine AWP.region rfl ?_
            refine AOps.val (Gv.move (v := .int _ _) rfl) ?_
            refine AOps.val (Gv.add rfl rfl (by unfold I64; omega)) ?_
            refine AOps.val (Gv.assign (v := .int _ _) rfl) ?_
            refine AOps.nil ?_
            exact ⟨(p + (Utf8.decode s p).2, n + 1), ⟨rfl, trivial⟩, ⟨rfl, trivial⟩, ⟨_, (.refl _), rfl⟩, ⟨by rw [if_pos (by simp_all [okRune] <;> omega)] at hstep; exact hstep, by dsimp only; omega, by dsimp only; omega⟩, by dsimp only; omega⟩
        · skip
          refine AOps.guardFd rfl rfl c11 ?_
          refine AOps.guardFd rfl rfl c11 ?_
          refine AOps.guardT rfl rfl c10 ?_
          refine AOps.val (Gv.pickF (v := .bool _) rfl c11 rfl) ?_
          refine AOps.guardT rfl rfl c10 ?_
          refine AOps.val (Gv.not rfl) ?_
          refine AOps.guardT rfl rfl c10 ?_
          refine AOps.val (Gv.move (v := .bool _) rfl) ?_
          refine AOps.guardT rfl rfl rfl ?_
          refine AOps.val (Gv.move (v := .int _ _) rfl) ?_
          refine AOps.guardT rfl rfl rfl ?_
          refine AOps.val (Gv.neqI rfl rfl) ?_
          refine AOps.guardT rfl rfl c10 ?_
          refine AOps.val (Gv.pickT (v := .bool _) rfl rfl rfl) ?_
          refine AOps.guardT rfl rfl c10 ?_
          refine AOps.val (Gv.move (v := .bool _) rfl) ?_
          refine AOps.case (s := 35) rfl (fun c15 => ?_) (fun c15 => ?_)
          · skip
            refine AOps.guardT rfl rfl c15 ?_
            refine AOps.val (Gv.move (v := .int _ _) rfl) ?_
            refine AOps.guardT rfl rfl c15 ?_
            refine AOps.val (Gv.neqI rfl rfl) ?_
            refine AOps.guardT rfl rfl c10 ?_
            refine AOps.val (Gv.pickT (v := .bool _) rfl c15 rfl) ?_
            refine AOps.guardT rfl rfl rfl ?_
            refine AOps.val (Gv.pickF (v := .bool _) rfl c10 rfl) ?_
            refine AOps.val (Gv.pickT (v := .bool _) rfl rfl rfl) ?_
            refine AOps.nil ?_
            refine AWP.cond rfl (fun c16 => ?_) (fun c16 => ?_)
            · skip
              refine AWP.seq ?_
              refine AWP.region rfl ?_
              refine AOps.val (Gv.assign (v := .bool _) rfl) ?_
              refine AOps.nil ?_
              refine AWP.ret ?_
              repeat (first | refine aseqQ_ret ?_ | refine ablockQ_ret ?_)
              refine afin.t1 (x := .bool _) rfl ?_
              rw [if_neg (by simp_all [okRune] <;> omega)] at hstep; exact jb hstep
            · skip
              refine AWP.skip ?_
              refine AWP.region rfl ?_
              refine AOps.val (Gv.move (v := .int _ _) rfl) ?_
              refine AOps.val (Gv.add rfl rfl (by unfold I64; omega)) ?_
              refine AOps.val (Gv.assign (v := .int _ _) rfl) ?_
              refine AOps.nil ?_
              exact ⟨(p + (Utf8.decode s p).2, n + 1), ⟨rfl, trivial⟩, ⟨rfl, trivial⟩, ⟨_, (.refl _), rfl⟩, ⟨by rw [if_pos (by simp_all [okRune] <;> omega)] at hstep; exact hstep, by dsimp only; omega, by dsimp only; omega⟩, by dsimp only; omega⟩
          · skip
            refine AOps.guardFd rfl rfl c15 ?_
            refine AOps.guardFd rfl rfl c15 ?_
            refine AOps.guardT rfl rfl c10 ?_
            refine AOps.val (Gv.pickF (v := .bool _) rfl c15 rfl) ?_
            refine AOps.guardT rfl rfl rfl ?_
            refine AOps.val (Gv.pickF (v := .bool _) rfl c10 rfl) ?_
            refine AOps.val (Gv.pickT (v := .bool _) rfl rfl rfl) ?_
            refine AOps.nil ?_
            refine AWP.condF rfl rfl ?_
            refine AWP.skip ?_
            refine AWP.region rfl ?_
            refine AOps.val (Gv.move (v := .int _ _) rfl) ?_
            refine AOps.val (Gv.add rfl rfl (by unfold I64; omega)) ?_
            refine AOps.val (Gv.assign (v := .int _ _) rfl) ?_
            refine AOps.nil ?_
            exact ⟨(p + (Utf8.decode s p).2, n + 1), ⟨rfl, trivial⟩, ⟨rfl, trivial⟩, ⟨_, (.refl _), rfl⟩, ⟨by rw [if_pos (by simp_all [okRune] <;> omega)] at hstep; exact hstep, by dsimp only; omega, by dsimp only; omega⟩, by dsimp only; omega⟩
  · skip
    rw [nameFrom, dif_neg hlt] at hp
    refine AWP.seq ?_
    refine AWP.region rfl ?_
    refine AOps.nextTover rfl .head hlt ?_
    refine AOps.val (Gv.extract (v := .bool _) rfl rfl) ?_
    refine AOps.nil ?_
    refine AWP.seq ?_
    refine AWP.condF rfl rfl ?_
    refine AWP.exit ?_
    refine AWP.seq ?_
    refine AWP.region rfl ?_
    refine AOps.val (Gv.move (v := .int _ _) rfl) ?_
    refine AOps.val (Gv.geq rfl rfl) ?_
    refine AOps.val (Gv.move (v := .bool _) rfl) ?_
    refine AOps.case (s := 45) rfl (fun c17 => ?_) (fun c17 => ?_)
    · skip
      refine AOps.guardT rfl rfl c17 ?_
      refine AOps.val (Gv.move (v := .int _ _) rfl) ?_
      refine AOps.guardT rfl rfl c17 ?_
      refine AOps.val (Gv.leq rfl rfl) ?_
      refine AOps.val (Gv.pickT (v := .bool _) rfl c17 rfl) ?_
      refine AOps.val (Gv.assign (v := .bool _) rfl) ?_
      refine AOps.nil ?_
      refine AWP.ret ?_
      repeat (first | refine aseqQ_ret ?_ | refine ablockQ_ret ?_)
      refine afin.t1 (x := .bool _) rfl ?_
      rw [← hp]; exact jb (by simp_all <;> (intros; omega))
    · skip
      refine AOps.guardFd rfl rfl c17 ?_
      refine AOps.guardFd rfl rfl c17 ?_
      refine AOps.val (Gv.pickF (v := .bool _) rfl c17 rfl) ?_
      refine AOps.val (Gv.assign (v := .bool _) rfl) ?_
      refine AOps.nil ?_
      refine AWP.ret ?_
      repeat (first | refine aseqQ_ret ?_ | refine ablockQ_ret ?_)
      refine afin.t1 (x := .bool _) rfl ?_
      rw [← hp]; exact jb (by simp_all <;> (intros; omega))
theorem rows_spec : AFun Tryz.prog E 55 [] (.fro 3 (kindT.map encK)) := by
  refine ACall.intro Tryz.func55 rfl (by decide) rfl ?_
  refine AWP.seq ?_
  refine AWP.region rfl ?_
  refine AOps.val (Gv.assign (v := .raw _) rfl) ?_
  refine AOps.nil ?_
  refine AWP.seq ?_
  refine AWP.region rfl ?_
  refine AOps.val (Gv.build (cps := [(0, [_]), (1, [_]), (2, [_])]) (rs := [_, _, _]) pl116 rfl rfl rfl) ?_
  refine AOps.val (Gv.build (cps := [(0, [_]), (1, [_]), (2, [_])]) (rs := [_, _, _]) pl116 rfl rfl rfl) ?_
  refine AOps.val (Gv.build (cps := [(0, [_]), (1, [_]), (2, [_])]) (rs := [_, _, _]) pl116 rfl rfl rfl) ?_
  refine AOps.val (Gv.build (cps := [(0, [_]), (1, [_]), (2, [_])]) (rs := [_, _, _]) pl116 rfl rfl rfl) ?_
  refine AOps.val (Gv.build (cps := [(0, [_]), (1, [_]), (2, [_])]) (rs := [_, _, _]) pl116 rfl rfl rfl) ?_
  refine AOps.val (Gv.build (cps := [(0, [_]), (1, [_]), (2, [_])]) (rs := [_, _, _]) pl116 rfl rfl rfl) ?_
  refine AOps.val (Gv.build (cps := [(0, [_]), (1, [_]), (2, [_])]) (rs := [_, _, _]) pl116 rfl rfl rfl) ?_
  refine AOps.val (Gv.build (cps := [(0, [_]), (1, [_]), (2, [_])]) (rs := [_, _, _]) pl116 rfl rfl rfl) ?_
  refine AOps.val (Gv.build (cps := [(0, [_]), (1, [_]), (2, [_])]) (rs := [_, _, _]) pl116 rfl rfl rfl) ?_
  refine AOps.val (Gv.build (cps := [(0, [_]), (1, [_]), (2, [_])]) (rs := [_, _, _]) pl116 rfl rfl rfl) ?_
  refine AOps.val (Gv.build (cps := [(0, [_]), (1, [_]), (2, [_])]) (rs := [_, _, _]) pl116 rfl rfl rfl) ?_
  refine AOps.val (Gv.build (cps := [(0, [_]), (1, [_]), (2, [_])]) (rs := [_, _, _]) pl116 rfl rfl rfl) ?_
  refine AOps.val (Gv.build (cps := [(0, [_]), (1, [_]), (2, [_])]) (rs := [_, _, _]) pl116 rfl rfl rfl) ?_
  refine AOps.val (Gv.build (cps := [(0, [_]), (1, [_]), (2, [_])]) (rs := [_, _, _]) pl116 rfl rfl rfl) ?_
  refine AOps.val (Gv.build (cps := [(0, [_]), (1, [_]), (2, [_])]) (rs := [_, _, _]) pl116 rfl rfl rfl) ?_
  refine AOps.val (Gv.build (cps := [(0, [_]), (1, [_]), (2, [_])]) (rs := [_, _, _]) pl116 rfl rfl rfl) ?_
  refine AOps.val (Gv.build (cps := [(0, [_]), (1, [_]), (2, [_])]) (rs := [_, _, _]) pl116 rfl rfl rfl) ?_
  refine AOps.val (Gv.build (cps := [(0, [_]), (1, [_]), (2, [_])]) (rs := [_, _, _]) pl116 rfl rfl rfl) ?_
  refine AOps.val (Gv.build (cps := [(0, [_]), (1, [_]), (2, [_])]) (rs := [_, _, _]) pl116 rfl rfl rfl) ?_
  refine AOps.val (Gv.build (cps := [(0, [_]), (1, [_]), (2, [_])]) (rs := [_, _, _]) pl116 rfl rfl rfl) ?_
  refine AOps.val (Gv.build (cps := [(0, [_]), (1, [_]), (2, [_])]) (rs := [_, _, _]) pl116 rfl rfl rfl) ?_
  refine AOps.val (Gv.build (cps := [(0, [_]), (1, [_]), (2, [_])]) (rs := [_, _, _]) pl116 rfl rfl rfl) ?_
  refine AOps.val (Gv.build (cps := [(0, [_]), (1, [_]), (2, [_])]) (rs := [_, _, _]) pl116 rfl rfl rfl) ?_
  refine AOps.val (Gv.build (cps := [(0, [_]), (1, [_]), (2, [_])]) (rs := [_, _, _]) pl116 rfl rfl rfl) ?_
  refine AOps.val (Gv.build (cps := [(0, [_]), (1, [_]), (2, [_])]) (rs := [_, _, _]) pl116 rfl rfl rfl) ?_
  refine AOps.val (Gv.build (cps := [(0, [_]), (1, [_]), (2, [_])]) (rs := [_, _, _]) pl116 rfl rfl rfl) ?_
  refine AOps.val (Gv.build (cps := [(0, [_]), (1, [_]), (2, [_])]) (rs := [_, _, _]) pl116 rfl rfl rfl) ?_
  refine AOps.buildSliceFF (rows := [[_, _, _], [_, _, _], [_, _, _], [_, _, _], [_, _, _], [_, _, _], [_, _, _], [_, _, _], [_, _, _], [_, _, _], [_, _, _], [_, _, _], [_, _, _], [_, _, _], [_, _, _], [_, _, _], [_, _, _], [_, _, _], [_, _, _], [_, _, _], [_, _, _], [_, _, _], [_, _, _], [_, _, _], [_, _, _], [_, _, _], [_, _, _]]) ps117_27 rfl rfl rfl rfl rfl ?_
  refine AOps.val (Gv.assign (v := .fro _ _) rfl) ?_
  refine AOps.nil ?_
  refine AWP.ret ?_
  repeat (first | refine aseqQ_ret ?_ | refine ablockQ_ret ?_)
  refine afin.t1 (x := .fro _ _) rfl ?_
  rfl
theorem in_spec (k n : Int) : AFun Tryz.prog E 54 [.int .i64 k, .int .i64 n] (.bool (decide (0 ≤ k) && decide (k < n))) := by
  refine ACall.intro Tryz.func54 rfl (by decide) rfl ?_
  refine AWP.seq ?_
  refine AWP.region rfl ?_
  refine AOps.val (Gv.assign (v := .bool _) rfl) ?_
  refine AOps.nil ?_
  refine AWP.seq ?_
  refine AWP.region rfl ?_
  refine AOps.val (Gv.move (v := .int _ _) rfl) ?_
  refine AOps.val (Gv.geq rfl rfl) ?_
  refine AOps.val (Gv.move (v := .bool _) rfl) ?_
  refine AOps.case (s := 7) rfl (fun c18 => ?_) (fun c18 => ?_)
  · skip
    refine AOps.guardT rfl rfl c18 ?_
    refine AOps.val (Gv.move (v := .int _ _) rfl) ?_
    refine AOps.guardT rfl rfl c18 ?_
    refine AOps.val (Gv.move (v := .int _ _) rfl) ?_
    refine AOps.guardT rfl rfl c18 ?_
    refine AOps.val (Gv.lss rfl rfl) ?_
    refine AOps.val (Gv.pickT (v := .bool _) rfl c18 rfl) ?_
    refine AOps.val (Gv.assign (v := .bool _) rfl) ?_
    refine AOps.nil ?_
    refine AWP.ret ?_
    repeat (first | refine aseqQ_ret ?_ | refine ablockQ_ret ?_)
    refine afin.t1 (x := .bool _) rfl ?_
    exact jb (by simp_all <;> omega)
  · skip
    refine AOps.guardFd rfl rfl c18 ?_
    refine AOps.guardFd rfl rfl c18 ?_
    refine AOps.guardFd rfl rfl c18 ?_
    refine AOps.val (Gv.pickF (v := .bool _) rfl c18 rfl) ?_
    refine AOps.val (Gv.assign (v := .bool _) rfl) ?_
    refine AOps.nil ?_
    refine AWP.ret ?_
    repeat (first | refine aseqQ_ret ?_ | refine ablockQ_ret ?_)
    refine afin.t1 (x := .bool _) rfl ?_
    exact jb (by simp_all <;> omega)
def strL (l : List UInt8) : ByteArray := ⟨l.toArray⟩
theorem strL_app (a b : List UInt8) : strL a ++ strL b = strL (a ++ b) := by
  apply ByteArray.ext
  simp [strL, ByteArray.data_append]
theorem strL_size (a : List UInt8) : (strL a).size = a.length := by show (List.toArray a).size = _; simp
theorem digit_wrap (x : Nat) (h : x < 18446744073709551616) : IntKind.u8.wrap (IntKind.u64.wrap (48 + (x : Int).tmod 10)) = ((48 + x % 10 : Nat) : Int) := by
  have h1 : (x : Int).tmod 10 = ((x % 10 : Nat) : Int) := by rw [Int.tmod_eq_emod_of_nonneg (by omega)]; rfl
  rw [h1]
  have h2 : IntKind.u64.wrap (48 + ((x % 10 : Nat) : Int)) = 48 + ((x % 10 : Nat) : Int) := by
    unfold IntKind.wrap; simp [IntKind.bits, IntKind.signed]; omega
  rw [h2]
  unfold IntKind.wrap; simp [IntKind.bits, IntKind.signed]; omega
theorem digit_str (x : Nat) (h : x < 18446744073709551616) : strOfNums [IntKind.u8.wrap (IntKind.u64.wrap (48 + (x : Int).tmod 10))] = strL [UInt8.ofNat (48 + x % 10)] := by
  rw [digit_wrap x h]; rfl
theorem quo_wrap (x : Nat) (h : x < 18446744073709551616) : IntKind.u64.wrap ((x : Int).tdiv 10) = ((x / 10 : Nat) : Int) := by
  have h1 : (x : Int).tdiv 10 = ((x / 10 : Nat) : Int) := by rw [Int.tdiv_eq_ediv_of_nonneg (by omega)]; rfl
  rw [h1]
  unfold IntKind.wrap; simp [IntKind.bits, IntKind.signed]; omega
def ten (y : Nat) (acc : List UInt8) : List UInt8 := if y = 0 then acc else decDigits y ++ acc
theorem ten_step {y : Nat} (acc : List UInt8) (h : 0 < y) : ten (y / 10) (UInt8.ofNat (48 + y % 10) :: acc) = ten y acc := by
  unfold ten
  rw [if_neg (by omega : ¬ y = 0)]
  split
  · rename_i h0
    rw [decDigits, dif_pos (by omega), Nat.mod_eq_of_lt (by omega)]; rfl
  · rename_i h0
    rw [decDigits.eq_1 y, dif_neg (by omega)]; simp
theorem decD_step (x : Nat) : ten (x / 10) [UInt8.ofNat (48 + x % 10)] = decDigits x := by
  by_cases h : x = 0
  · subst h; rw [decDigits, dif_pos (by omega)]; rfl
  · rw [ten_step [] (by omega)]; unfold ten; rw [if_neg h]; simp
theorem decD_len (x : Nat) (h : x < 18446744073709551616) : (decDigits x).length ≤ 40 := by
  have : ∀ (k y : Nat), y < 10 ^ (k + 1) → (decDigits y).length ≤ k + 1 := by
    intro k
    induction k with
    | zero => intro y hy; rw [decDigits, dif_pos (by simpa using hy)]; simp
    | succ k ih =>
      intro y hy
      rw [decDigits]
      split
      · simp
      · rw [List.length_append]
        have := ih (y / 10) (by rw [Nat.pow_succ] at hy; omega)
        simp; omega
  exact this 39 x (by omega)
theorem plain_spec (x : Nat) (hx : x < 18446744073709551616) : AFun Tryz.prog E 85 [.int .u64 x] (.str (strL (decDigits x))) := by
  have hlen := decD_len x hx
  refine ACall.intro Tryz.func85 rfl (by decide) rfl ?_
  refine AWP.seq ?_
  refine AWP.region rfl ?_
  refine AOps.val (Gv.assign (v := .str _) rfl) ?_
  refine AOps.nil ?_
  refine AWP.seq ?_
  refine AWP.region rfl ?_
  refine AOps.val (Gv.move (v := .int _ _) rfl) ?_
  refine AOps.val (Gv.rem rfl rfl (by decide)) ?_
  refine AOps.val (Gv.addW rfl rfl) ?_
  refine AOps.val (Gv.conv Tryz.underlying155 Tryz.underlying5 rfl) ?_
  refine AOps.buildSliceFF (rows := [[_]]) ps75_1 rfl rfl rfl rfl rfl ?_
  refine AOps.val (Gv.convBytes (ns := [_]) Tryz.underlying75 Tryz.underlying5 Tryz.underlying9 rfl) ?_
  refine AOps.val (Gv.assign (v := .str _) rfl) ?_
  refine AOps.nil ?_
  refine AWP.seq ?_
  refine AWP.seq ?_
  refine AWP.region rfl ?_
  refine AOps.val (Gv.move (v := .int _ _) rfl) ?_
  refine AOps.val (Gv.quo rfl rfl (by decide)) ?_
  refine AOps.val (Gv.assign (v := .int _ _) rfl) ?_
  refine AOps.nil ?_
  refine AWP.block ?_
  refine AWP.loop (γ := Nat × List UInt8) [] (fun g => [(0, .int .u64 g.1), (3, .str (strL g.2))]) (fun g => []) (fun g => ten g.1 g.2 = decDigits x ∧ g.1 < 18446744073709551616) (fun g => g.1) (x / 10, [UInt8.ofNat (48 + x % 10)]) ⟨(congrArg (AV.int .u64) (quo_wrap x hx)), (congrArg AV.str (digit_str x hx)), trivial⟩ ⟨_, (.refl _), rfl⟩ (⟨decD_step x, by dsimp only; omega⟩) ?_
  rintro ⟨y, acc⟩ ⟨hy, hlt⟩
  try dsimp only at *
  refine AWP.seq ?_
  refine AWP.seq ?_
  refine AWP.region rfl ?_
  refine AOps.val (Gv.move (v := .int _ _) rfl) ?_
  refine AOps.val (Gv.gtr rfl rfl) ?_
  refine AOps.nil ?_
  refine AWP.condP rfl (fun cy => ?_) (fun cy => ?_)
  · skip
    have hy0 : 0 < y := by omega
    have hal : acc.length ≤ 40 := by
      have := congrArg List.length hy
      unfold ten at this; split at this <;> (try simp at this) <;> omega
    refine AWP.skip ?_
    refine AWP.seq ?_
    refine AWP.block ?_
    refine AWP.region rfl ?_
    refine AOps.val (Gv.move (v := .int _ _) rfl) ?_
    refine AOps.val (Gv.rem rfl rfl (by decide)) ?_
    refine AOps.val (Gv.addW rfl rfl) ?_
    refine AOps.val (Gv.conv Tryz.underlying155 Tryz.underlying5 rfl) ?_
    refine AOps.buildSliceFF (rows := [[_]]) ps75_1 rfl rfl rfl rfl rfl ?_
    refine AOps.val (Gv.convBytes (ns := [_]) Tryz.underlying75 Tryz.underlying5 Tryz.underlying9 rfl) ?_
    refine AOps.val (Gv.move (v := .str _) rfl) ?_
    refine AOps.val (Gv.addT rfl rfl (by rw [digit_str y hlt, strL_size, strL_size]; simp; omega)) ?_
    refine AOps.val (Gv.assign (v := .str _) rfl) ?_
    refine AOps.nil ?_
    refine AWP.region rfl ?_
    refine AOps.val (Gv.move (v := .int _ _) rfl) ?_
    refine AOps.val (Gv.quo rfl rfl (by decide)) ?_
    refine AOps.val (Gv.assign (v := .int _ _) rfl) ?_
    refine AOps.nil ?_
    exact ⟨(y / 10, UInt8.ofNat (48 + y % 10) :: acc), trivial, ⟨congrArg (AV.int .u64) (quo_wrap y hlt), congrArg AV.str (by rw [digit_str y hlt, strL_app]; rfl), trivial⟩, ⟨_, (.refl _), rfl⟩, ⟨by dsimp only; rw [ten_step acc hy0]; exact hy, by dsimp only; omega⟩, by dsimp only; omega⟩
  · skip
    have hy0 : y = 0 := by omega
    subst hy0
    refine AWP.exit ?_
    refine AWP.seq ?_
    refine AWP.region rfl ?_
    refine AOps.val (Gv.move (v := .str _) rfl) ?_
    refine AOps.val (Gv.assign (v := .str _) rfl) ?_
    refine AOps.nil ?_
    refine AWP.ret ?_
    repeat (first | refine aseqQ_ret ?_ | refine ablockQ_ret ?_)
    refine afin.t1 (x := .str _) rfl ?_
    rw [← hy]; rfl
theorem neg_wrap (n : Int) (h : -9223372036854775808 ≤ n) (h0 : n < 0) : IntKind.u64.wrap (0 - IntKind.u64.wrap n) = ((n.natAbs : Nat) : Int) := by
  unfold IntKind.wrap; simp [IntKind.bits, IntKind.signed]; omega
theorem pos_wrap (n : Int) (h : n ≤ 9223372036854775807) (h0 : 0 ≤ n) : IntKind.u64.wrap n = ((n.toNat : Nat) : Int) := by
  unfold IntKind.wrap; simp [IntKind.bits, IntKind.signed]; omega
theorem digits_spec (n : Int) (hn : -9223372036854775808 ≤ n ∧ n ≤ 9223372036854775807) : AFun Tryz.prog E 56 [.int .i64 n] (.str (strL (itoa n))) := by
  refine ACall.intro Tryz.func56 rfl (by decide) rfl ?_
  refine AWP.seq ?_
  refine AWP.region rfl ?_
  refine AOps.val (Gv.assign (v := .str _) rfl) ?_
  refine AOps.nil ?_
  refine AWP.seq ?_
  refine AWP.seq ?_
  refine AWP.region rfl ?_
  refine AOps.val (Gv.move (v := .int _ _) rfl) ?_
  refine AOps.val (Gv.lss rfl rfl) ?_
  refine AOps.nil ?_
  refine AWP.condP rfl (fun c => ?_) (fun c => ?_)
  · skip
    have e := neg_wrap n hn.1 c
    have hl := decD_len n.natAbs (by omega)
    have hp := plain_spec (E := E) n.natAbs (by omega)
    rw [← e] at hp
    refine AWP.seq ?_
    refine AWP.region rfl ?_
    refine AOps.val (Gv.move (v := .int _ _) rfl) ?_
    refine AOps.val (Gv.conv Tryz.underlying2 Tryz.underlying155 rfl) ?_
    refine AOps.val (Gv.neg rfl) ?_
    refine AOps.val (Gv.assign (v := .int _ _) rfl) ?_
    refine AOps.nil ?_
    refine AWP.seq ?_
    refine AWP.region rfl ?_
    refine AOps.val (Gv.move (v := .int _ _) rfl) ?_
    refine AOps.callP (hp) rfl ?_
    refine AOps.val (Gv.addT rfl rfl (by rw [strL_size]; show 1 + _ ≤ _; omega)) ?_
    refine AOps.val (Gv.assign (v := .str _) rfl) ?_
    refine AOps.nil ?_
    refine AWP.ret ?_
    repeat (first | refine aseqQ_ret ?_ | refine ablockQ_ret ?_)
    refine afin.t1 (x := .str _) rfl ?_
    unfold itoa; rw [if_pos c]; exact congrArg AV.str (strL_app [45] _)
  · skip
    have e := pos_wrap n hn.2 (by omega)
    have hp := plain_spec (E := E) n.toNat (by omega)
    rw [← e] at hp
    refine AWP.skip ?_
    refine AWP.seq ?_
    refine AWP.region rfl ?_
    refine AOps.val (Gv.move (v := .int _ _) rfl) ?_
    refine AOps.val (Gv.conv Tryz.underlying2 Tryz.underlying155 rfl) ?_
    refine AOps.callP (hp) rfl ?_
    refine AOps.val (Gv.assign (v := .str _) rfl) ?_
    refine AOps.nil ?_
    refine AWP.ret ?_
    repeat (first | refine aseqQ_ret ?_ | refine ablockQ_ret ?_)
    refine afin.t1 (x := .str _) rfl ?_
    unfold itoa; rw [if_neg c]
end Go.Proofs.YtdkhlgiohpdihaaGreatDoor
namespace Go.Proofs.YtdkhlgiohpdihaaGreatDoor
theorem Pick.perm {O O' : OL} {i : Nat} {o : AObj} (h : Pick O i o O') : O.Perm ((i, o) :: O') := by
  induction h with
  | head => exact .refl _
  | tail _ ih => exact (ih.cons _).trans (.swap _ _ _)
section
variable {E : World} {P : Program} {f : FuncId} {as0 : List AV} {O : OL}
theorem ACall.exact {γ : Type} {x : γ → AV} {M : γ → OL} {p : γ → Prop} (h : ACall P E f as0 O (fun y O' => ∃ g, y = x g ∧ Left O' (M g) ∧ p g)) : ACall P E f as0 O (fun y O' => ∃ g, y = x g ∧ O' = M g ∧ p g) :=
  h.know fun I F w v y O' ⟨g, e, hl, hp⟩ h1 h2 => ⟨I, y, M g, .refl _, h1, hl.sla h2, g, e, rfl, hp⟩
theorem ACall.frozen {k m : Nat} {T : TypeId} {rows : List (List AV)} (h : ACall P E f as0 [] (fun y O' => ∃ i : Nat, y = .own i m ∧ Left O' [(i, .grow k T rows.flatten)] ∧ True)) (hk : ∀ r ∈ rows, r.length = k) (hk0 : 0 < k) (hm : rows.length = m) : AFun P E f as0 (.fro k rows) :=
  h.know fun I F w v y O' ⟨i, e, hl, _⟩ h1 h2 => by
    subst e
    obtain ⟨J, h3, h4, h5⟩ := Go.Proofs.YtdkhlgiohpdihaaGreatDoor.know .head hk hk0 hm (hl.sla h2)
    exact ⟨J, _, [], h3, h5 _ h1, h4, rfl⟩
end
end Go.Proofs.YtdkhlgiohpdihaaGreatDoor
namespace Go.Proofs.YtdkhlgiohpdihaaGreatDoor
open Go.ChangeShapes Go.WideShapes Go.ChangeAt Go.RowKit Go.Deep
def full (W : World) : Ghost := fun b => W.heap[b]?
theorem full_sl (W : World) : SL (full W) [] W W := ⟨rfl, rfl, rfl, fun _ _ h => h, by simp, by simp, by simp, fun _ _ h => h, (fun _ _ h h2 => by rw [show W.heap[_]? = some _ from h] at h2; cases h2), by simp⟩
def I0 (W : World) : G := ⟨full W, fun _ => none⟩
theorem cell_known {W : World} {p : Addr} {v : Value} (h : W.cell? p = some v) : p = ⟨p.block, p.off, none⟩ ∧ KAt (full W) p.block p.off v := by
  unfold World.cell? at h
  split at h
  · rename_i c t f hb
    split at h
    · cases h
    · rename_i hs
      have : p.spot = none := by simpa using hs
      obtain ⟨b, o, s⟩ := p
      simp only at this
      subst this
      exact ⟨rfl, ⟨c, t, f, hb, h⟩⟩
  · cases h
def Dec (P : Program) (W : World) (T : TypeId) {α : Type} (enc : α → List AV) (ok : α → Prop) : Prop :=
  ∀ {H : Type} (e : TypeId × Value → H) (held : Bool) (fuel : Nat) (cs : List Value) (x : DataW H × List MemPlace), DataW.trod e P W 0 (fun _ => true) held fuel T cs = some x → ∃ a, ok a ∧ RepL (I0 W) (enc a) cs
section
variable {P : Program} {W : World} {T e : TypeId}
theorem Dec.int {k : IntKind} (hu : P.underlying T = some (.int k)) : Dec P W T (fun x : Int => [.int k x]) (fun x => (Lit.int k x).wf = true) := fun _ _ _ _ _ h => by
  obtain ⟨n, rfl, _, hw⟩ := DataW.trod_int hu h
  exact ⟨n, hw, _, _, rfl, rfl, rfl⟩
theorem Dec.bool (hu : P.underlying T = some .bool) : Dec P W T (fun x : Bool => [.bool x]) (fun _ => True) := fun _ _ _ _ _ h => by
  obtain ⟨n, rfl, _⟩ := DataW.trod_bool hu h
  exact ⟨n, trivial, _, _, rfl, rfl, rfl⟩
theorem Dec.str (hu : P.underlying T = some .string) : Dec P W T (fun x : ByteArray => [.str x]) (fun x => x.size ≤ maxLen) := fun _ _ _ _ _ h => by
  obtain ⟨n, rfl, _, hw⟩ := DataW.trod_string hu h
  exact ⟨n, hw, _, _, rfl, rfl, rfl⟩
theorem Dec.slice {α : Type} {enc : α → List AV} {ok : α → Prop} {k : Nat} (ht : P.underlying T = some (.slice e)) (he : Dec P W e enc ok) (hk : P.cellsOf e = k) (hk0 : 0 < k) :
    Dec P W T (fun xs : List α => [.fro k (xs.map enc)]) (fun xs => (∀ x ∈ xs, ok x) ∧ xs.length ≤ maxLen) := fun en held fuel cs x h => by
  rcases open_slice ht h with ⟨rfl, _⟩ | ⟨a, len, cap, m, n, D, Pl, rfl, _, hl, hc, hm, _, hr⟩
  · exact ⟨[], ⟨by simp, Nat.zero_le _⟩, _, _, rfl, ⟨none, 0, 0, rfl, rfl, Nat.le_refl _, fun _ => rfl, trivial⟩, rfl⟩
  · simp only [if_true] at hm
    have each : ∀ i, i < len → ∃ y : α, ok y ∧ ∃ vs : List Value, vs.length = k ∧ RepL (I0 W) (enc y) vs ∧ ∀ j (u : Value), vs[j]? = some u → W.cell? (a.add (i * k + j)) = some u := by
      intro i hi
      obtain ⟨cs, h1, h2⟩ := hr i (by omega)
      rw [hk] at h1
      obtain ⟨_, hcl, hat⟩ := World.cells?_some h1
      obtain ⟨y, hy, hrep⟩ := he en held n cs _ h2
      refine ⟨y, hy, cs, hcl, hrep, fun j u hu => ?_⟩
      have hj : j < k := by have := (List.getElem?_eq_some_iff.1 hu).1; omega
      have := hat j hj
      rw [Go.Deep.add_add] at this
      rw [this, hu]
    by_cases h0 : len = 0
    · subst h0
      exact ⟨[], ⟨by simp, Nat.zero_le _⟩, _, _, rfl, ⟨some a, 0, cap, rfl, rfl, Nat.zero_le _, fun h => by (cases h), trivial⟩, rfl⟩
    · obtain ⟨y0, _⟩ := each 0 (by omega)
      have : Inhabited α := ⟨y0⟩
      obtain ⟨Y, hY⟩ := choose_lt each
      have ha : a = ⟨a.block, a.off, none⟩ := by
        obtain ⟨_, vs, hvl, _, hat⟩ := hY 0 (by omega)
        have := hat 0 _ (List.getElem?_eq_getElem (show 0 < vs.length by omega))
        rw [Nat.zero_mul] at this
        exact (cell_known (by simpa [Addr.add] using this)).1
      refine ⟨(List.range len).map Y, ⟨?_, by simp; omega⟩, _, _, rfl, ⟨some a, len, cap, rfl, by simp, hl, fun h => by (cases h), RepR.intro fun j r hj => ?_⟩, rfl⟩
      · intro x hx
        obtain ⟨i, hi, rfl⟩ := List.mem_map.1 hx
        exact (hY i (by simpa using hi)).1
      · rw [List.getElem?_map, List.getElem?_map] at hj
        have hjl : j < len := by
          rcases Nat.lt_or_ge j len with h | h
          · exact h
          · rw [List.getElem?_eq_none (by simpa using h)] at hj; cases hj
        rw [List.getElem?_range hjl] at hj
        simp only [Option.map_some, Option.some.injEq] at hj
        subst hj
        obtain ⟨_, vs, hvl, hrep, hat⟩ := hY j hjl
        refine ⟨a.block, a.off, vs, by rw [← ha], hvl, hrep, fun i u hu => ?_⟩
        have := hat i u hu
        rw [ha, addr_add] at this
        have := (cell_known this).2
        rw [Nat.zero_add, Nat.add_assoc]; exact this
theorem RepL.fin {I : G} {cs : List Value} {o : Nat} (h : cs.length = o) : RepL I [] (cs.drop o) := List.drop_eq_nil_of_le (by omega)
theorem Dec.at {α : Type} {enc : α → List AV} {ok : α → Prop} {f : Field} {H : Type} {en : TypeId × Value → H} {held : Bool} {n o k i : Nat} {cs : List Value} {xs : List (DataW H × List MemPlace)}
    (h1 : DataW.trod en P W 0 (fun _ => true) held n f.type ((cs.drop f.offset).take (P.cellsOf f.type)) = xs[i]?) (hd : Dec P W f.type enc ok) (h2 : i < xs.length) (ho : f.offset = o) (hk : P.cellsOf f.type = k) :
    ∃ a, ok a ∧ RepL (I0 W) (enc a) ((cs.drop o).take k) := by
  rw [List.getElem?_eq_getElem h2, ho, hk] at h1
  exact hd en held n _ _ h1
theorem Dec.map {α β : Type} {enc : α → List AV} {ok : α → Prop} {enc' : β → List AV} {ok' : β → Prop} (h : Dec P W T enc ok) (g : α → β) (he : ∀ a, enc' (g a) = enc a) (hk : ∀ a, ok a → ok' (g a)) : Dec P W T enc' ok' := fun en held fuel cs x hx => by
  obtain ⟨a, h1, h2⟩ := h en held fuel cs x hx
  exact ⟨g a, hk a h1, by rw [he]; exact h2⟩
end
theorem tabIs_of_reads {P : Program} {W : World} {name : String} {k : IntKind} {zs : List Int} {g : Nat} {t e : TypeId} {n : Nat}
    (hg : P.globalNamed name = some g) (hty : (P.globals[g]?).map (·.type) = some t) (ht : P.underlying t = some (.array n e)) (he : P.underlying e = some (.int k)) (hce : P.cellsOf e = 1) (hct : P.cellsOf t = n)
    (h : Lib.VarReads P W name (Lib.tabData k zs)) : Lib.TabIs P W name k zs := by
  obtain ⟨g', t', cs, fuel, p, hg', ht', hvar, hd⟩ := h
  obtain rfl := Option.some.inj (hg.symm.trans hg')
  obtain rfl := Option.some.inj (hty.symm.trans ht')
  unfold Lib.TabIs
  rw [hvar, ← Lib.cells_of_tab ht he hce hct hd]
theorem AFun.call {P : Program} {W : World} {f : FuncId} {us : List AV} {vs : List Value} {r : AV} (h : AFun P W f us r) (hr : RepL (I0 W) us vs) (hp : r.plain = true) : Calls P f vs.toArray W fun e w' => ∃ v, e = .returned v ∧ RepV (I0 W) r v ∧ Below W.heap.size W w' := by
  have := (h (I0 W) [] W vs hr ⟨⟨0, fun _ _ => rfl⟩, [], rfl, full_sl W⟩).2
  refine this.mono fun e w' ⟨v, he, J, x, O', hle, hx, hS, hxr⟩ => ⟨v, he, ?_, ?_⟩
  · subst hxr; exact AV.plain_rep hp hx
  · obtain ⟨_, L, _, hSL⟩ := hS
    exact hSL.belowE
end Go.Proofs.YtdkhlgiohpdihaaGreatDoor
namespace Go.Proofs.YtdkhlgiohpdihaaGreatDoor
def gdiff (J : Ghost) (E : World) : Ghost := fun b => match E.heap[b]? with
  | none => J b
  | some _ => none
theorem gdiff_some {J : Ghost} {E : World} {b : Nat} {o : Obj} (h : gdiff J E b = some o) : E.heap[b]? = none ∧ J b = some o := by
  unfold gdiff at h
  cases hE : E.heap[b]? with
  | none => rw [hE] at h; exact ⟨rfl, h⟩
  | some x => rw [hE] at h; cases h
theorem gdiff_le {I J : Ghost} (E : World) (h : I.le J) : (gdiff I E).le (gdiff J E) := fun b o hb => by
  obtain ⟨h1, h2⟩ := gdiff_some hb
  unfold gdiff
  rw [h1]; exact h _ _ h2
def GD (J : Ghost) (E : World) : G := ⟨gdiff J E, fun _ => none⟩
theorem GD.le {I J : Ghost} (E : World) (h : I.le J) : (GD I E).le (GD J E) := ⟨gdiff_le E h, fun _ _ h => by cases h⟩
def newv (E : World) (x : AV) : AV := .ext fun J v => RepV (GD J E) x v
theorem newv_rep {I : G} {E : World} {x : AV} {v : Value} (h : RepV I (newv E x) v) : RepV (GD I.k E) x v := h.2 _ (.refl _)
def Up (E : World) (xs ys : List AV) : Prop := ∀ (I : G) vs, RepL I xs vs → RepL (GD I.k E) ys vs
theorem Up.nil {E : World} : Up E [] [] := fun _ _ h => h
theorem Up.int {E : World} {k : IntKind} {n : Int} {xs ys : List AV} (h : Up E xs ys) : Up E (.int k n :: xs) (.int k n :: ys) := fun I _ ⟨v, us, e, h1, h2⟩ => ⟨v, us, e, h1, h I us h2⟩
theorem Up.str {E : World} {s : ByteArray} {xs ys : List AV} (h : Up E xs ys) : Up E (.str s :: xs) (.str s :: ys) := fun I _ ⟨v, us, e, h1, h2⟩ => ⟨v, us, e, h1, h I us h2⟩
theorem Up.new {E : World} {x : AV} {xs ys : List AV} (h : Up E xs ys) : Up E (newv E x :: xs) (x :: ys) := fun I _ ⟨v, us, e, h1, h2⟩ => ⟨v, us, e, newv_rep h1, h I us h2⟩
theorem Up.append {E : World} {a b c d : List AV} (h1 : Up E a c) (h2 : Up E b d) : Up E (a ++ b) (c ++ d) := fun I vs h => by
  have e1 := h.take a.length
  have e2 := h.drop a.length
  rw [List.take_left] at e1
  rw [List.drop_left] at e2
  have := (h1 I _ e1).append (h2 I _ e2)
  rwa [List.take_append_drop] at this
theorem Up.map {E : World} {α : Type} {enc enc' : α → List AV} (h : ∀ x, Up E (enc x) (enc' x)) : ∀ l : List α, Up E (l.map enc).flatten (l.map enc').flatten
  | [] => Up.nil
  | x :: l => by simpa using (h x).append (Up.map h l)
section
variable {E : World} {P : Program} {n : Nat} {env : AEnv} {O O' O'' : OL} {i k m : Nat} {T : TypeId} {rows rows' : List (List AV)}
end
section
variable {E : World} {P : Program} {f : FuncId} {us bs : List AV} {r : AV}
theorem RepL.imp {I J : G} {g h : AV → AV} (hi : ∀ c v, RepV I (g c) v → RepV J (h c) v) : ∀ (cs : List AV) (vs : List Value), RepL I (cs.map g) vs → RepL J (cs.map h) vs
  | [], _, e => e
  | _ :: cs, _, ⟨v, us, e, h1, h2⟩ => ⟨v, us, e, hi _ _ h1, RepL.imp hi cs us h2⟩
end
def TurnV (B : Nat) : Value → Value → Prop
  | .int k _, v' => ∃ n, v' = .int k n
  | .string s, v' => ∃ s', v' = .string s' ∧ s'.size ≤ s.size + B
  | v, v' => v' = v
def TurnO (B : Nat) : Obj → Obj → Prop
  | .cells c T _, o' => ∃ c' : Array Value, o' = .cells c' T (0, 0) ∧ c'.size = c.size ∧ ∀ (i : Nat) v, c[i]? = some v → ∃ v', c'[i]? = some v' ∧ TurnV B v v'
  | o, o' => o' = o
def Turned (B : Nat) : List (Nat × Obj) → List (Nat × Obj) → Prop
  | [], L' => L' = []
  | (b, o) :: L, L' => ∃ o' R, L' = (b, o') :: R ∧ TurnO B o o' ∧ Turned B L R
theorem TurnV.refl (B : Nat) (v : Value) : TurnV B v v := by
  cases v <;> first | exact rfl | exact ⟨_, rfl⟩ | exact ⟨_, rfl, Nat.le_add_right _ _⟩
theorem TurnV.more {B B' : Nat} (h : B ≤ B') {v v' : Value} (hv : TurnV B v v') : TurnV B' v v' := by
  cases v <;> first | exact hv | (obtain ⟨s', e, hs⟩ := hv; exact ⟨s', e, by omega⟩)
theorem TurnO.more {B B' : Nat} (h : B ≤ B') {v v' : Obj} (hv : TurnO B v v') : TurnO B' v v' := by
  cases v <;> first | exact hv | (obtain ⟨s', e, hs, h2⟩ := hv; exact ⟨s', e, hs, fun i v hi => let ⟨v', a, b⟩ := h2 i v hi; ⟨v', a, b.more h⟩⟩)
theorem Turned.more {B B' : Nat} (h : B ≤ B') : ∀ {L L' : List (Nat × Obj)}, Turned B L L' → Turned B' L L'
  | [], _, e => e
  | _ :: _, _, ⟨o', R, e, h1, h2⟩ => ⟨o', R, e, h1.more h, Turned.more h h2⟩
theorem Turned.refl (B : Nat) : ∀ {L : List (Nat × Obj)}, (∀ y ∈ L, flatO y.2) → Turned B L L
  | [], _ => rfl
  | (b, o) :: L, h => ⟨o, L, rfl, by
      have := h (b, o) (.head _)
      cases o <;> first | exact rfl | (have this : _ = (0, 0) := this; subst this; exact ⟨_, rfl, rfl, fun i v hv => ⟨v, hv, .refl _ _⟩⟩), Turned.refl B fun y hy => h y (.tail _ hy)⟩
theorem Turned.at {B : Nat} {b : Nat} {c : Array Value} {T : TypeId} {fz : Nat × Nat} : ∀ {L L' : List (Nat × Obj)}, Turned B L L' → L.lookup b = some (.cells c T fz) →
    ∃ c' X Y, L' = X ++ (b, .cells c' T (0, 0)) :: Y ∧ c'.size = c.size ∧ (∀ (i : Nat) v, c[i]? = some v → ∃ v', c'[i]? = some v' ∧ TurnV B v v') ∧
      ∀ B' (c'' : Array Value), B ≤ B' → c''.size = c.size → (∀ (i : Nat) v, c[i]? = some v → ∃ v', c''[i]? = some v' ∧ TurnV B' v v') → Turned B' L (X ++ (b, .cells c'' T (0, 0)) :: Y)
  | [], _, _, h => by cases h
  | (a, o) :: L, L', ⟨o', R, e, h1, h2⟩, h => by
    rw [List.lookup_cons] at h
    cases hb : b == a with
    | true =>
      rw [hb] at h
      cases h
      have hba : b = a := by simpa using hb
      subst hba
      obtain ⟨c', rfl, hs, hc⟩ := h1
      exact ⟨c', [], R, e, hs, hc, fun B' c'' hB hs' hc' => ⟨_, R, rfl, ⟨c'', rfl, hs', hc'⟩, h2.more hB⟩⟩
    | false =>
      rw [hb] at h
      obtain ⟨c', X, Y, rfl, hs, hc, hk⟩ := Turned.at h2 h
      exact ⟨c', (a, o') :: X, Y, e, hs, hc, fun B' c'' hB hs' hc' => ⟨o', _, rfl, h1.more hB, hk B' c'' hB hs' hc'⟩⟩
section
variable {E : World} {P : Program} {n : Nat} {ops : Array Oper} {K : AEnv → OL → Prop} {env : AEnv} {O O' : OL} {rest : List Oper}
variable {d ty : Nat} {pos : String} {af : Array Edge} {t e : TypeId} {x y : Operand} {L : List (Nat × Obj)}
theorem GStep.turn (hP : Put O 0 (.heap (fun L' => L' = L)) (.heap (Turned 0 L)) O') : GStep E env O env O' := fun I F ρ w h1 ⟨ht, L0, hL, hS⟩ => by
  obtain ⟨A, B, hp, hA, hback⟩ := hP.rep hL
  have hA : A = L := hA
  subst hA
  obtain ⟨L', h3, h4⟩ := hback (G.le.refl I) (A' := A) (Turned.refl 0 fun y hy => hS.oflat y (List.mem_append_left _ (hp.mem_iff.2 (List.mem_append_left _ hy))))
  exact ⟨I, .refl _, h1, ht, L', h3, hS.perm ((h4.trans hp.symm).append_right F)⟩
end
end Go.Proofs.YtdkhlgiohpdihaaGreatDoor
