/- Programs as plain data, and as memory holds them. No conditions. -/
import Derived.Test.YtlfhoiakmbcnlaaDoorOp
namespace Go.Proofs.YtlfhoiakmbcnlaaDoor
open Go.Proofs
theorem ps79_1 : PlacesS Tryd.prog 79 45 1 1 [.int .i64 0] := ⟨_, Tryd.underlying79, Tryd.sizeOf45, Tryd.zeroValue45, by decide, by decide, by kernel_rfl⟩
variable {E : World}
set_option maxRecDepth 20000

structure PVar where
  name : ByteArray
  ty : Int
deriving DecidableEq
structure PPhi where
  dst : Int
  args : List Int
  from_ : List Int
deriving DecidableEq
structure PInst where
  op : Int
  dst : Int
  args : List Int
  num : Int
deriving DecidableEq
structure PTerm where
  kind : Int
  var : Int
  to0 : Int
  to1 : Int
deriving DecidableEq
structure PBlock where
  name : ByteArray
  phis : List PPhi
  insts : List PInst
  term : PTerm
deriving DecidableEq
structure PFunc where
  vars : List PVar
  params : List Int
  blocks : List PBlock
deriving DecidableEq

def encI (x : Int) : List AV := [.int .i64 x]
def encVar (v : PVar) : List AV := [.str v.name, .int .i64 v.ty]
def encPhi (p : PPhi) : List AV := [.int .i64 p.dst, .fro 1 (p.args.map encI), .fro 1 (p.from_.map encI)]
def encInst (x : PInst) : List AV := [.int .i64 x.op, .int .i64 x.dst, .fro 1 (x.args.map encI), .int .i64 x.num]
def encTerm (t : PTerm) : List AV := [.int .i64 t.kind, .int .i64 t.var, .int .i64 t.to0, .int .i64 t.to1]
def encBlk (b : PBlock) : List AV := [.str b.name, .fro 3 (b.phis.map encPhi), .fro 4 (b.insts.map encInst), .int .i64 b.term.kind, .int .i64 b.term.var, .int .i64 b.term.to0, .int .i64 b.term.to1]
def encF (f : PFunc) : List AV := [.fro 2 (f.vars.map encVar), .fro 1 (f.params.map encI), .fro 7 (f.blocks.map encBlk)]

theorem takes_spec (op : Int) : AFun Tryd.prog E 38 [.int .i64 op] (.fro 1 ((takesL op).map encI)) := by
  obtain ⟨hasc, _⟩ := kRow_ascii op
  have hl : (takesL op).length = (kRow op).2.1.size := by unfold takesL; rw [List.length_map]; exact Array.length_toList
  have hlen : (takesL op).length ≤ 3 := by
    rcases kRow_mem op with h | h
    · unfold takesL; rw [h]; decide
    · have : ∀ r ∈ kindT, r.2.1.data.toList.length ≤ 3 := by decide
      have := this _ h
      unfold takesL; simpa using this
  refine ACall.intro Tryd.func38 rfl (by decide) rfl ?_
  refine AWP.seq ?_
  refine AWP.region rfl ?_
  refine AOps.val (Gv.assign (v := .raw _) rfl) ?_
  refine AOps.nil ?_
  refine AWP.seq ?_
  refine AWP.region rfl ?_
  refine AOps.val (Gv.assign (v := .raw _) rfl) ?_
  refine AOps.nil ?_
  refine adopt_wp (t := 3) (k := 1) (T := 45) rfl ?_
  intro i3
  refine AWP.seq ?_
  refine AWP.seq ?_
  refine AWP.region rfl ?_
  refine AOps.val (Gv.move (v := .int _ _) rfl) ?_
  refine AOps.callP (of_spec _) rfl ?_
  refine AOps.val (Gv.field1 (v := .str _) Tryd.underlying84 rfl Tryd.isAgg9 rfl rfl) ?_
  refine AOps.rangeT Tryd.underlying9 rfl ?_
  intro i9
  refine AOps.nil ?_
  refine AWP.block ?_
  refine AWP.loop (γ := Nat × Nat) [9] (fun g => [(3, .own g.2 g.1)]) (fun g => [(i9, .iter (kRow op).2.1 g.1), (g.2, .grow 1 45 (((takesL op).take g.1).map encI).flatten)]) (fun g => g.1 ≤ (takesL op).length) (fun g => (takesL op).length - g.1) (0, i3) ⟨rfl, trivial⟩ ⟨_, (.refl _), rfl⟩ (Nat.zero_le _) ?_
  rintro ⟨p, i⟩ hp
  try dsimp only at *
  try simp only at hp
  by_cases hlt : p < (takesL op).length
  · skip
    have hb : p < (kRow op).2.1.data.toList.length := by rw [hl] at hlt; exact hlt
    have hg : (kRow op).2.1.data[p]? = some (kRow op).2.1.data.toList[p] := by rw [Array.getElem_toList]; exact Array.getElem?_eq_getElem hb
    refine AWP.seq ?_
    refine AWP.region rfl ?_
    refine AOps.nextA rfl hg (hasc _ (List.getElem_mem hb)) .head ?_
    refine AOps.val (Gv.extract (v := .bool _) rfl rfl) ?_
    refine AOps.nil ?_
    refine AWP.seq ?_
    refine AWP.condT rfl rfl ?_
    have ht : (takesL op).take (p + 1) = (takesL op).take p ++ [typeOf ((kRow op).2.1.data.toList[p]).toNat] := by
      rw [List.take_succ_eq_append_getElem hlt]
      have : (takesL op)[p] = typeOf ((kRow op).2.1.data.toList[p]).toNat := List.getElem_map _
      rw [this]
    refine AWP.skip ?_
    refine AWP.block ?_
    refine AWP.seq ?_
    refine AWP.region rfl ?_
    refine AOps.val (Gv.extract (v := .int _ _) rfl rfl) ?_
    refine AOps.val (Gv.assign (v := .int _ _) rfl) ?_
    refine AOps.nil ?_
    refine AWP.region rfl ?_
    refine AOps.val (Gv.move (v := .own _ _) rfl) ?_
    refine AOps.val (Gv.move (v := .int _ _) rfl) ?_
    refine AOps.callP (typed_spec _) rfl ?_
    refine AOps.buildSliceFF (rows := [[_]]) ps79_1 rfl rfl rfl rfl rfl ?_
    refine AOps.appendS (k := 1) Tryd.underlying79 Tryd.type45 rfl rfl rfl rfl rfl (fun _ => (.tail .head)) (by rw [grow_len (k := 1) (fun _ => rfl), List.length_take, Nat.min_eq_left hp]) (by decide) rfl (by show (_ + _) * 8 ≤ _; simp <;> omega) (by simp <;> omega) ?_
    intro i17
    refine AOps.val (Gv.assign (v := .own _ _) rfl) ?_
    refine AOps.nil ?_
    exact ⟨(p + 1, i17), ⟨rfl, trivial⟩, ⟨rfl, trivial⟩, ⟨_, (.refl _), by rw [← grow_push ht]; rfl⟩, hlt, by simp only; omega⟩
  · skip
    refine AWP.seq ?_
    refine AWP.region rfl ?_
    refine AOps.nextTover rfl .head (by rw [← hl]; exact hlt) ?_
    refine AOps.val (Gv.extract (v := .bool _) rfl rfl) ?_
    refine AOps.nil ?_
    refine AWP.seq ?_
    refine AWP.condF rfl rfl ?_
    have hkn : p = (takesL op).length := by omega
    subst hkn
    rw [List.take_length]
    refine AWP.exit ?_
    refine AWP.seq ?_
    refine AWP.region rfl ?_
    refine AOps.val (Gv.move (v := .own _ _) rfl) ?_
    refine AOps.val (Gv.assign (v := .own _ _) rfl) ?_
    refine AOps.nil ?_
    refine AWP.ret ?_
    repeat (first | refine aseqQ_ret ?_ | refine ablockQ_ret ?_)
    refine GStep.fin (GStep.know (t := 2) (rows := (takesL op).map encI) rfl (.tail .head) (by simp [encI, encVar, encPhi, encInst, encBlk]) (by decide) (by simp)) ?_
    refine afin.t1 (x := .fro _ _) rfl ?_
    rfl

theorem makes_spec (op : Int) : AFun Tryd.prog E 37 [.int .i64 op] (.tup [.int .i64 (makesT op), .bool (makesB op)]) := by
  obtain ⟨_, hasc⟩ := kRow_ascii op
  refine ACall.intro Tryd.func37 rfl (by decide) rfl ?_
  refine AWP.seq ?_
  refine AWP.region rfl ?_
  refine AOps.val (Gv.assign (v := .int _ _) rfl) ?_
  refine AOps.val (Gv.assign (v := .bool _) rfl) ?_
  refine AOps.nil ?_
  refine AWP.seq ?_
  refine AWP.seq ?_
  refine AWP.region rfl ?_
  refine AOps.val (Gv.move (v := .int _ _) rfl) ?_
  refine AOps.callP (of_spec _) rfl ?_
  refine AOps.val (Gv.field1 (v := .str _) Tryd.underlying84 rfl Tryd.isAgg9 rfl rfl) ?_
  refine AOps.rangeT Tryd.underlying9 rfl ?_
  intro i9
  refine AOps.nil ?_
  refine AWP.block ?_
  refine AWP.loop (γ := Unit) [9] (fun g => []) (fun g => [(i9, .iter (kRow op).2.2 0)]) (fun g => True) (fun g => 0) () trivial ⟨_, (.refl _), rfl⟩ (trivial) ?_
  rintro _ _
  by_cases hlt : ∃ c0 tl, (kRow op).2.2.data.toList = c0 :: tl
  · skip
    obtain ⟨c0, tl, hk⟩ := hlt
    have hg : (kRow op).2.2.data[0]? = some c0 := by rw [← Array.getElem?_toList, hk]; rfl
    refine AWP.seq ?_
    refine AWP.region rfl ?_
    refine AOps.nextA rfl hg (hasc _ (by rw [hk]; exact .head _)) .head ?_
    refine AOps.val (Gv.extract (v := .bool _) rfl rfl) ?_
    refine AOps.nil ?_
    refine AWP.seq ?_
    refine AWP.condT rfl rfl ?_
    refine AWP.skip ?_
    refine AWP.block ?_
    refine AWP.seq ?_
    refine AWP.region rfl ?_
    refine AOps.val (Gv.extract (v := .int _ _) rfl rfl) ?_
    refine AOps.val (Gv.assign (v := .int _ _) rfl) ?_
    refine AOps.nil ?_
    refine AWP.seq ?_
    refine AWP.region rfl ?_
    refine AOps.val (Gv.move (v := .int _ _) rfl) ?_
    refine AOps.callP (typed_spec _) rfl ?_
    refine AOps.val (Gv.assign (v := .int _ _) rfl) ?_
    refine AOps.val (Gv.assign (v := .bool _) rfl) ?_
    refine AOps.nil ?_
    refine AWP.ret ?_
    repeat (first | refine aseqQ_ret ?_ | refine ablockQ_ret ?_)
    refine afin.t2 (x := .int _ _) (y := .bool _) rfl rfl ?_
    unfold makesT makesB; rw [hk]; rfl
  · skip
    have hk : (kRow op).2.2.data.toList = [] := by
      cases h : (kRow op).2.2.data.toList with
      | nil => rfl
      | cons x l => exact absurd ⟨x, l, h⟩ hlt
    refine AWP.seq ?_
    refine AWP.region rfl ?_
    refine AOps.nextTover rfl .head (by show ¬ 0 < (kRow op).2.2.data.size; rw [← Array.length_toList, hk]; decide) ?_
    refine AOps.val (Gv.extract (v := .bool _) rfl rfl) ?_
    refine AOps.nil ?_
    refine AWP.seq ?_
    refine AWP.condF rfl rfl ?_
    refine AWP.exit ?_
    refine AWP.seq ?_
    refine AWP.region rfl ?_
    refine AOps.val (Gv.assign (v := .int _ _) rfl) ?_
    refine AOps.val (Gv.assign (v := .bool _) rfl) ?_
    refine AOps.nil ?_
    refine AWP.ret ?_
    repeat (first | refine aseqQ_ret ?_ | refine ablockQ_ret ?_)
    refine afin.t2 (x := .int _ _) (y := .bool _) rfl rfl ?_
    unfold makesT makesB; rw [hk]; rfl

def hasV (f : PFunc) (v : Int) : Bool := decide (0 ≤ v) && decide (v < f.vars.length)
def hasB (f : PFunc) (b : Int) : Bool := decide (0 ≤ b) && decide (b < f.blocks.length)
theorem has_spec (f : PFunc) (v : Int) : AFun Tryd.prog E 40 [.agg (encF f), .int .i64 v] (.bool (hasV f v)) := by
  refine ACall.intro Tryd.func40 rfl (by decide) rfl ?_
  refine AWP.seq ?_
  refine AWP.region rfl ?_
  refine AOps.boxF (cs := _) rfl rfl rfl ?_
  refine AOps.val (Gv.assign (v := .bool _) rfl) ?_
  refine AOps.nil ?_
  refine AWP.seq ?_
  refine AWP.region rfl ?_
  refine AOps.val (Gv.move (v := .int _ _) rfl) ?_
  refine AOps.val (Gv.geq rfl rfl) ?_
  refine AOps.val (Gv.move (v := .bool _) rfl) ?_
  refine AOps.case (s := 7) rfl (fun c1 => ?_) (fun c1 => ?_)
  · skip
    refine AOps.guardT rfl rfl c1 ?_
    refine AOps.val (Gv.move (v := .int _ _) rfl) ?_
    refine AOps.guardT rfl rfl c1 ?_
    refine AOps.val (Gv.fieldF Tryd.underlying26 rfl Tryd.sizeOf22 (by decide) rfl rfl) ?_
    refine AOps.guardT rfl rfl c1 ?_
    refine AOps.val (Gv.load1F (c := .fro _ _) Tryd.isAgg22 rfl) ?_
    refine AOps.guardT rfl rfl c1 ?_
    refine AOps.val (Gv.lenM Tryd.underlying22 rfl) ?_
    refine AOps.guardT rfl rfl c1 ?_
    refine AOps.val (Gv.lss rfl rfl) ?_
    refine AOps.val (Gv.pickT (v := .bool _) rfl c1 rfl) ?_
    refine AOps.val (Gv.assign (v := .bool _) rfl) ?_
    refine AOps.nil ?_
    refine AWP.ret ?_
    repeat (first | refine aseqQ_ret ?_ | refine ablockQ_ret ?_)
    refine afin.t1 (x := .bool _) rfl ?_
    simp_all [hasV] <;> omega
  · skip
    refine AOps.guardFd rfl rfl c1 ?_
    refine AOps.guardFd rfl rfl c1 ?_
    refine AOps.guardFd rfl rfl c1 ?_
    refine AOps.guardFd rfl rfl c1 ?_
    refine AOps.guardFd rfl rfl c1 ?_
    refine AOps.val (Gv.pickF (v := .bool _) rfl c1 rfl) ?_
    refine AOps.val (Gv.assign (v := .bool _) rfl) ?_
    refine AOps.nil ?_
    refine AWP.ret ?_
    repeat (first | refine aseqQ_ret ?_ | refine ablockQ_ret ?_)
    refine afin.t1 (x := .bool _) rfl ?_
    simp_all [hasV] <;> omega
theorem at_spec (f : PFunc) (v : Int) : AFun Tryd.prog E 46 [.agg (encF f), .int .i64 v] (.bool (hasB f v)) := by
  refine ACall.intro Tryd.func46 rfl (by decide) rfl ?_
  refine AWP.seq ?_
  refine AWP.region rfl ?_
  refine AOps.boxF (cs := _) rfl rfl rfl ?_
  refine AOps.val (Gv.assign (v := .bool _) rfl) ?_
  refine AOps.nil ?_
  refine AWP.seq ?_
  refine AWP.region rfl ?_
  refine AOps.val (Gv.move (v := .int _ _) rfl) ?_
  refine AOps.val (Gv.geq rfl rfl) ?_
  refine AOps.val (Gv.move (v := .bool _) rfl) ?_
  refine AOps.case (s := 7) rfl (fun c2 => ?_) (fun c2 => ?_)
  · skip
    refine AOps.guardT rfl rfl c2 ?_
    refine AOps.val (Gv.move (v := .int _ _) rfl) ?_
    refine AOps.guardT rfl rfl c2 ?_
    refine AOps.val (Gv.fieldF Tryd.underlying26 rfl Tryd.sizeOf24 (by decide) rfl rfl) ?_
    refine AOps.guardT rfl rfl c2 ?_
    refine AOps.val (Gv.load1F (c := .fro _ _) Tryd.isAgg24 rfl) ?_
    refine AOps.guardT rfl rfl c2 ?_
    refine AOps.val (Gv.lenM Tryd.underlying24 rfl) ?_
    refine AOps.guardT rfl rfl c2 ?_
    refine AOps.val (Gv.lss rfl rfl) ?_
    refine AOps.val (Gv.pickT (v := .bool _) rfl c2 rfl) ?_
    refine AOps.val (Gv.assign (v := .bool _) rfl) ?_
    refine AOps.nil ?_
    refine AWP.ret ?_
    repeat (first | refine aseqQ_ret ?_ | refine ablockQ_ret ?_)
    refine afin.t1 (x := .bool _) rfl ?_
    simp_all [hasB] <;> omega
  · skip
    refine AOps.guardFd rfl rfl c2 ?_
    refine AOps.guardFd rfl rfl c2 ?_
    refine AOps.guardFd rfl rfl c2 ?_
    refine AOps.guardFd rfl rfl c2 ?_
    refine AOps.guardFd rfl rfl c2 ?_
    refine AOps.val (Gv.pickF (v := .bool _) rfl c2 rfl) ?_
    refine AOps.val (Gv.assign (v := .bool _) rfl) ?_
    refine AOps.nil ?_
    refine AWP.ret ?_
    repeat (first | refine aseqQ_ret ?_ | refine ablockQ_ret ?_)
    refine afin.t1 (x := .bool _) rfl ?_
    simp_all [hasB] <;> omega

/-- Where the first one is, of those that a function takes. -/
def firstI {α : Type} (p : α → Bool) : List α → Nat → Int
  | [], _ => -1
  | x :: xs, k => if p x then k else firstI p xs (k + 1)
theorem firstI_ge {α : Type} (p : α → Bool) : ∀ (xs : List α) (k : Nat), decide (0 ≤ firstI p xs k) = xs.any p
  | [], k => rfl
  | x :: xs, k => by
    unfold firstI
    rw [List.any_cons]
    split
    · rename_i h; rw [h]; simp
    · rename_i h; simp [h, firstI_ge p xs (k + 1)]
theorem firstI_drop {α : Type} (p : α → Bool) : ∀ (xs : List α) (k : Nat), k ≤ xs.length → (xs.take k).all (fun x => !p x) = true → firstI p xs 0 = firstI p (xs.drop k) k
  | _, 0, _, _ => rfl
  | xs, k + 1, h, hall => by
    rw [List.take_succ_eq_append_getElem (by omega), List.all_append] at hall
    simp only [Bool.and_eq_true, List.all_cons, List.all_nil, Bool.and_true] at hall
    rw [firstI_drop p xs k (by omega) hall.1, List.drop_eq_getElem_cons (by omega)]
    rw [firstI]
    rw [if_neg (by simpa using hall.2)]

theorem indexFuncI_spec {p : Int → Bool} {fn : FuncId} {c : List AV} (xs : List Int) (hl : xs.length ≤ 281474976710656) (hp : ∀ x, AFun Tryd.prog E fn ([.int .i64 x] ++ c) (.bool (p x))) :
    AFun Tryd.prog E 60 [.fro 1 (xs.map encI), .fn fn [] c] (.int .i64 (firstI p xs 0)) := by
  refine ACall.intro Tryd.func60 rfl (by decide) rfl ?_
  refine AWP.seq ?_
  refine AWP.region rfl ?_
  refine AOps.val (Gv.assign (v := .int _ _) rfl) ?_
  refine AOps.nil ?_
  refine AWP.seq ?_
  refine AWP.seq ?_
  refine AWP.region rfl ?_
  refine AOps.val (Gv.move (v := .fro _ _) rfl) ?_
  refine AOps.val (Gv.lenM Tryd.underlying23 rfl) ?_
  refine AOps.val (Gv.move (v := .int _ _) rfl) ?_
  refine AOps.nil ?_
  refine AWP.block ?_
  refine AWP.loop (γ := Nat) [0, 1, 7] (fun k => [(8, .int .i64 k)]) (fun k => []) (fun k => k ≤ xs.length ∧ (xs.take k).all (fun x => !p x)) (fun k => xs.length - k) 0 ⟨rfl, trivial⟩ ⟨_, (.refl _), rfl⟩ (⟨Nat.zero_le _, rfl⟩) ?_
  rintro k ⟨hk, hall⟩
  refine AWP.seq ?_
  refine AWP.region rfl ?_
  refine AOps.val (Gv.lss rfl rfl) ?_
  refine AOps.nil ?_
  refine AWP.seq ?_
  refine AWP.condP rfl (fun ck => ?_) (fun ck => ?_)
  · skip
    have hk2 : k < xs.length := by omega
    refine AWP.skip ?_
    refine AWP.seq ?_
    refine AWP.block ?_
    refine AWP.seq ?_
    refine AWP.region rfl ?_
    refine AOps.val (Gv.move (v := .int _ _) rfl) ?_
    refine AOps.val (Gv.assign (v := .int _ _) rfl) ?_
    refine AOps.nil ?_
    refine AWP.seq ?_
    refine AWP.region rfl ?_
    refine AOps.val (Gv.move (v := .fn _ _ _) rfl) ?_
    refine AOps.val (Gv.move (v := .fro _ _) rfl) ?_
    refine AOps.val (Gv.move (v := .int _ _) rfl) ?_
    refine AOps.val (Gv.idxM Tryd.underlying23 Tryd.sizeOf3 rfl rfl rfl (List.getElem?_eq_getElem (by omega))) ?_
    refine AOps.val (Gv.load1F (c := .int _ _) Tryd.isAgg3 rfl) ?_
    refine AOps.callVP rfl (hp _) rfl ?_
    refine AOps.nil ?_
    refine AWP.cond rfl (fun cp => ?_) (fun cp => ?_)
    · skip
      refine AWP.seq ?_
      refine AWP.region rfl ?_
      refine AOps.val (Gv.move (v := .int _ _) rfl) ?_
      refine AOps.val (Gv.assign (v := .int _ _) rfl) ?_
      refine AOps.nil ?_
      refine AWP.ret ?_
      repeat (first | refine aseqQ_ret ?_ | refine ablockQ_ret ?_)
      refine afin.t1 (x := .int _ _) rfl ?_
      rw [firstI_drop p xs k hk hall, List.drop_eq_getElem_cons hk2, firstI, if_pos cp]
    · skip
      refine AWP.skip ?_
      refine AWP.region rfl ?_
      refine AOps.val (Gv.add rfl rfl (by unfold I64; omega)) ?_
      refine AOps.val (Gv.move (v := .int _ _) rfl) ?_
      refine AOps.nil ?_
      exact ⟨k + 1, ⟨rfl, rfl, rfl, trivial⟩, ⟨rfl, trivial⟩, ⟨_, (.refl _), rfl⟩, ⟨hk2, by rw [List.take_succ_eq_append_getElem hk2, List.all_append, hall]; simp [cp]⟩, by omega⟩
  · skip
    have hkn : k = xs.length := by omega
    refine AWP.exit ?_
    refine AWP.seq ?_
    refine AWP.region rfl ?_
    refine AOps.val (Gv.assign (v := .int _ _) rfl) ?_
    refine AOps.nil ?_
    refine AWP.ret ?_
    repeat (first | refine aseqQ_ret ?_ | refine ablockQ_ret ?_)
    refine afin.t1 (x := .int _ _) rfl ?_
    rw [firstI_drop p xs k hk hall, hkn, List.drop_length, firstI]

theorem containsFuncI_spec {p : Int → Bool} {fn : FuncId} {c : List AV} (xs : List Int) (hl : xs.length ≤ 281474976710656) (hp : ∀ x, AFun Tryd.prog E fn ([.int .i64 x] ++ c) (.bool (p x))) :
    AFun Tryd.prog E 49 [.fro 1 (xs.map encI), .fn fn [] c] (.bool (xs.any p)) := by
  refine ACall.intro Tryd.func49 rfl (by decide) rfl ?_
  refine AWP.seq ?_
  refine AWP.region rfl ?_
  refine AOps.val (Gv.assign (v := .bool _) rfl) ?_
  refine AOps.nil ?_
  refine AWP.seq ?_
  refine AWP.region rfl ?_
  refine AOps.val (Gv.move (v := .fro _ _) rfl) ?_
  refine AOps.val (Gv.move (v := .fn _ _ _) rfl) ?_
  refine AOps.callP (indexFuncI_spec xs hl hp) rfl ?_
  refine AOps.val (Gv.geq rfl rfl) ?_
  refine AOps.val (Gv.assign (v := .bool _) rfl) ?_
  refine AOps.nil ?_
  refine AWP.ret ?_
  repeat (first | refine aseqQ_ret ?_ | refine ablockQ_ret ?_)
  refine afin.t1 (x := .bool _) rfl ?_
  rw [firstI_ge]

theorem vars1_spec (f : PFunc) (v : Int) : AFun Tryd.prog E 50 ([.int .i64 v] ++ [.pf (encF f)]) (.bool (!hasV f v)) := by
  refine ACall.intro Tryd.func50 rfl (by decide) rfl ?_
  refine AWP.seq ?_
  refine AWP.region rfl ?_
  refine AOps.val (Gv.assign (v := .bool _) rfl) ?_
  refine AOps.nil ?_
  refine AWP.seq ?_
  refine AWP.region rfl ?_
  refine AOps.val (Gv.loadWF Tryd.isAgg26 Tryd.sizeOf26 rfl rfl) ?_
  refine AOps.val (Gv.move (v := .int _ _) rfl) ?_
  refine AOps.callP (has_spec _ _) rfl ?_
  refine AOps.val (Gv.not rfl) ?_
  refine AOps.val (Gv.assign (v := .bool _) rfl) ?_
  refine AOps.nil ?_
  refine AWP.ret ?_
  repeat (first | refine aseqQ_ret ?_ | refine ablockQ_ret ?_)
  refine afin.t1 (x := .bool _) rfl ?_
  rfl
theorem vars_spec (f : PFunc) (l : List Int) (hl : l.length ≤ 281474976710656) : AFun Tryd.prog E 39 [.agg (encF f), .fro 1 (l.map encI)] (.bool (l.all (hasV f))) := by
  refine ACall.intro Tryd.func39 rfl (by decide) rfl ?_
  refine AWP.seq ?_
  refine AWP.region rfl ?_
  refine AOps.boxF (cs := _) rfl rfl rfl ?_
  refine AOps.val (Gv.assign (v := .bool _) rfl) ?_
  refine AOps.nil ?_
  refine AWP.seq ?_
  refine AWP.region rfl ?_
  refine AOps.val (Gv.move (v := .fro _ _) rfl) ?_
  refine AOps.val (Gv.func rfl rfl) ?_
  refine AOps.callP (containsFuncI_spec l hl (vars1_spec f)) rfl ?_
  refine AOps.val (Gv.not rfl) ?_
  refine AOps.val (Gv.assign (v := .bool _) rfl) ?_
  refine AOps.nil ?_
  refine AWP.ret ?_
  repeat (first | refine aseqQ_ret ?_ | refine ablockQ_ret ?_)
  refine afin.t1 (x := .bool _) rfl ?_
  rw [List.any_eq_not_all_not]; simp
end Go.Proofs.YtlfhoiakmbcnlaaDoor
