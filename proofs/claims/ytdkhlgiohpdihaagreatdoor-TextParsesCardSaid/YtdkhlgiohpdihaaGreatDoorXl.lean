/- What the listed variables of Go's library read as; programs whose numbers are int64s. No conditions. -/
import Derived.Test.YtdkhlgiohpdihaaGreatDoorXk
import Derived.Test.YtdkhlgiohpdihaaGreatDoorXc
import Derived.Lib.LaidRTab
import Derived.Lib.LaidU8
import Derived.Stop.LaidErr
import Derived.Shelf.Vars
import Derived.Handed
namespace Go.Proofs.YtdkhlgiohpdihaaGreatDoor
open Go.Proofs Go.Lib Go.Shelf Go.RowKit
set_option maxRecDepth 20000
variable {E : World}
def Imp (x y : AV) : Prop := ∀ I v, RepV I x v → RepV I y v
def ImpL (xs ys : List AV) : Prop := ∀ I vs, RepL I xs vs → RepL I ys vs
theorem Imp.refl (x : AV) : Imp x x := fun _ _ h => h
theorem Imp.nil (k : Nat) : Imp (.raw (.slice none 0 0)) (.fro k []) := fun _ _ h => ⟨none, 0, 0, h, rfl, Nat.le_refl _, fun _ => rfl, trivial⟩
theorem ImpL.nil : ImpL [] [] := fun _ _ h => h
theorem ImpL.cons {x y : AV} {xs ys : List AV} (h : Imp x y) (hs : ImpL xs ys) : ImpL (x :: xs) (y :: ys) := fun I _ ⟨v, us, e, h1, h2⟩ => ⟨v, us, e, h I v h1, hs I us h2⟩
theorem Imp.agg {xs ys : List AV} (h : ImpL xs ys) : Imp (.agg xs) (.agg ys) := fun I _ ⟨vs, e, h1⟩ => ⟨vs, e, h I vs h1⟩
theorem lawShaped_spec (f : PFunc) (hf : okFunc f) (hn : okNames f) (hL : Letters E) : AFun Tryz.prog E 8 [.agg (encF f)] (.bool (decide (ShapedP f))) := by
  refine ACall.intro Tryz.func8 rfl (by decide) rfl ?_
  refine AWP.seq ?_
  refine AWP.region rfl ?_
  refine AOps.boxF (cs := _) rfl rfl rfl ?_
  refine AOps.val (Gv.assign (v := .bool _) rfl) ?_
  refine AOps.nil ?_
  refine AWP.seq ?_
  refine AWP.region rfl ?_
  refine AOps.val (Gv.loadWF Tryz.isAgg27 Tryz.sizeOf27 rfl rfl) ?_
  refine AOps.callP (refShaped_spec _ (by assumption) (by assumption) hL) rfl ?_
  refine AOps.val (Gv.assign (v := .bool _) rfl) ?_
  refine AOps.nil ?_
  refine AWP.ret ?_
  repeat (first | refine aseqQ_ret ?_ | refine ablockQ_ret ?_)
  refine afin.t1 (x := .bool _) rfl ?_
  rfl
theorem Left.none : ∀ O : OL, Left O []
  | [] => .refl _
  | _ :: O => let ⟨_, h, e⟩ := Left.none O; ⟨_, .drop h, e⟩
theorem few_ex (f : PFunc) (hf : wFunc f) : ACall Tryz.prog E 11 [.agg (encF f)] [] (fun x O' => ∃ b : Bool, x = .bool b ∧ O' = [] ∧ (b = true → little f)) :=
  ((few_spec f hf).mono fun x O' ⟨b, e, h⟩ => ⟨b, e, Left.none O', h⟩ : ACall Tryz.prog E 11 [.agg (encF f)] [] (fun x O' => ∃ b : Bool, x = .bool b ∧ Left O' [] ∧ (b = true → little f))).exact
end Go.Proofs.YtdkhlgiohpdihaaGreatDoor
namespace Go.Proofs.YtdkhlgiohpdihaaGreatDoor
open Go.Proofs Go.Lib Go.Shelf Go.RowKit Go.WideShapes
set_option maxRecDepth 20000
variable {W : World}
theorem decI : Dec Tryz.prog W 3 encI (fun x => (Lit.int .i64 x).wf = true) := Dec.int Tryz.underlying3
theorem decIs : Dec Tryz.prog W 24 (fun l : List Int => [.fro 1 (l.map encI)]) wL := fun en held fuel cs x h => by
  obtain ⟨l, hl, r⟩ := Dec.slice (k := 1) Tryz.underlying24 decI (by kernel_rfl) (by decide) en held fuel cs x h
  exact ⟨l, hl.2, r⟩
theorem decVar : Dec Tryz.prog W 38 encVar (fun _ => True) := fun en held fuel cs x h => by
  obtain ⟨xs, n, _, _, hl, hxl, hf⟩ := DataW.trod_struct Tryz.underlying38 h
  have hl : cs.length = 2 := hl.trans (by kernel_rfl)
  have hxl : xs.length = 2 := hxl
  obtain ⟨a, _, ra⟩ := Dec.at (o := 0) (k := 1) (hf 0 _ rfl) (Dec.str Tryz.underlying9) (by omega) rfl (by kernel_rfl)
  obtain ⟨b, _, rb⟩ := Dec.at (o := 1) (k := 1) (hf 1 _ rfl) (Dec.int Tryz.underlying36) (by omega) rfl (by kernel_rfl)
  exact ⟨⟨a, b⟩, trivial, RepL.fld (o := 0) ra (RepL.fld rb (RepL.fin hl))⟩
theorem decPhi : Dec Tryz.prog W 64 encPhi wPhi := fun en held fuel cs x h => by
  obtain ⟨xs, n, _, _, hl, hxl, hf⟩ := DataW.trod_struct Tryz.underlying64 h
  have hl : cs.length = 3 := hl.trans (by kernel_rfl)
  have hxl : xs.length = 3 := hxl
  obtain ⟨a, _, ra⟩ := Dec.at (o := 0) (k := 1) (hf 0 _ rfl) decI (by omega) rfl (by kernel_rfl)
  obtain ⟨b, hb, rb⟩ := Dec.at (o := 1) (k := 1) (hf 1 _ rfl) decIs (by omega) rfl (by kernel_rfl)
  obtain ⟨c, hc, rc⟩ := Dec.at (o := 2) (k := 1) (hf 2 _ rfl) decIs (by omega) rfl (by kernel_rfl)
  exact ⟨⟨a, b, c⟩, ⟨hb, hc⟩, RepL.fld (o := 0) ra (RepL.fld rb (RepL.fld rc (RepL.fin hl)))⟩
def wInst (x : PInst) : Prop := wL x.args ∧ (Lit.int .i64 x.num).wf = true
theorem decInst : Dec Tryz.prog W 67 encInst wInst := fun en held fuel cs x h => by
  obtain ⟨xs, n, _, _, hl, hxl, hf⟩ := DataW.trod_struct Tryz.underlying67 h
  have hl : cs.length = 4 := hl.trans (by kernel_rfl)
  have hxl : xs.length = 4 := hxl
  obtain ⟨a, _, ra⟩ := Dec.at (o := 0) (k := 1) (hf 0 _ rfl) (Dec.int Tryz.underlying65) (by omega) rfl (by kernel_rfl)
  obtain ⟨b, _, rb⟩ := Dec.at (o := 1) (k := 1) (hf 1 _ rfl) decI (by omega) rfl (by kernel_rfl)
  obtain ⟨c, hc, rc⟩ := Dec.at (o := 2) (k := 1) (hf 2 _ rfl) decIs (by omega) rfl (by kernel_rfl)
  obtain ⟨d, hd, rd⟩ := Dec.at (o := 3) (k := 1) (hf 3 _ rfl) (Dec.int Tryz.underlying2) (by omega) rfl (by kernel_rfl)
  exact ⟨⟨a, b, c, d⟩, ⟨hc, hd⟩, RepL.fld (o := 0) ra (RepL.fld rb (RepL.fld rc (RepL.fld rd (RepL.fin hl))))⟩
theorem decTerm : Dec Tryz.prog W 46 encTerm (fun _ => True) := fun en held fuel cs x h => by
  obtain ⟨xs, n, _, _, hl, hxl, hf⟩ := DataW.trod_struct Tryz.underlying46 h
  have hl : cs.length = 4 := hl.trans (by kernel_rfl)
  have hxl : xs.length = 3 := hxl
  obtain ⟨a, _, ra⟩ := Dec.at (o := 0) (k := 1) (hf 0 _ rfl) (Dec.int Tryz.underlying43) (by omega) rfl (by kernel_rfl)
  obtain ⟨b, _, rb⟩ := Dec.at (o := 1) (k := 1) (hf 1 _ rfl) decI (by omega) rfl (by kernel_rfl)
  obtain ⟨c, _, rc⟩ := Dec.at (o := 2) (k := 2) (hf 2 _ rfl) (Dec.pair (k := 1) Tryz.underlying44 decI (by kernel_rfl) (by kernel_rfl)) (by omega) rfl (by kernel_rfl)
  exact ⟨⟨a, b, c.1, c.2⟩, trivial, RepL.fld (o := 0) ra (RepL.fld rb (RepL.fld rc (RepL.fin hl)))⟩
theorem of_struct {H : Type} {enc : TypeId × Value → H} {held : Bool} {α : Type} {T : TypeId} {e : α → List AV} {ok : α → Prop} {fs : Array Field} {base : Nat} {v : Value} {d : DataW H} {p : List MemPlace} (hd : Dec Tryz.prog W T e ok) (ht : Tryz.prog.underlying T = some (.struct fs))
    (hv : Value.okWide Tryz.prog W .any base T v) (h : DataW.Trod enc Tryz.prog W 0 (fun _ => true) held T v d p) : ∃ a, ok a ∧ RepV (I0 W) (.agg (e a)) v := by
  obtain ⟨cs, rfl, _⟩ := okWide_struct ht hv
  obtain ⟨fuel, h⟩ := h
  obtain ⟨a, h1, h2⟩ := hd enc held fuel _ _ h
  exact ⟨a, h1, cs.toList, by simp, h2⟩
theorem xTab : RExtra Tryz.prog Tryz.lays200_ren := ⟨by kernel_rfl, by kernel_rfl, by kernel_rfl, by kernel_rfl, by kernel_rfl, by kernel_rfl, by kernel_rfl, by kernel_rfl⟩
theorem pows_of (h : Lib.VarReads Tryz.prog W "internal/strconv.uint64pow10" (Lib.tabData .u64 Lib.pow10Tab)) : Pows W :=
  tabIs_of_reads (g := 4) (by kernel_rfl) (by kernel_rfl) Tryz.underlying205 Tryz.underlying155 (by kernel_rfl) (by kernel_rfl) h
theorem letters_of (h : Lib.VarReads Tryz.prog W "unicode.properties" (Lib.tabData .u8 Lib.propertiesTab)) (h2 : Lib.VarReads Tryz.prog W "unicode.Letter" (Lib.rtabData letterT)) : Letters W :=
  ⟨tabIs_of_reads (g := 2) (by kernel_rfl) (by kernel_rfl) Tryz.underlying165 Tryz.underlying5 (by kernel_rfl) (by kernel_rfl) h,
   rvar_of_reads { Tryz.lays200 with } xTab (name := "unicode.Letter") (g := 3) (by kernel_rfl) (by kernel_rfl) h2⟩
end Go.Proofs.YtdkhlgiohpdihaaGreatDoor
namespace Go.Proofs.YtdkhlgiohpdihaaGreatDoor
open Go.Proofs Go.Lib Go.Shelf Go.RowKit
set_option maxRecDepth 20000
variable {E : World}
theorem indexFuncV_spec {p : PVar → Bool} {fn : FuncId} {c : List AV} (xs : List PVar) (hl : xs.length ≤ 281474976710656) (hp : ∀ x ∈ xs, AFun Tryz.prog E fn ([.agg (encVar x)] ++ c) (.bool (p x))) :
    AFun Tryz.prog E 24 [.fro 2 (xs.map encVar), .fn fn [] c] (.int .i64 (firstI p xs 0)) := by
  refine ACall.intro Tryz.func24 rfl (by decide) rfl ?_
  refine AWP.seq ?_
  refine AWP.region rfl ?_
  refine AOps.val (Gv.assign (v := .int _ _) rfl) ?_
  refine AOps.nil ?_
  refine AWP.seq ?_
  refine AWP.seq ?_
  refine AWP.region rfl ?_
  refine AOps.val (Gv.move (v := .fro _ _) rfl) ?_
  refine AOps.val (Gv.lenM Tryz.underlying23 rfl) ?_
  refine AOps.val (Gv.move (v := .int _ _) rfl) ?_
  refine AOps.nil ?_
  refine AWP.block ?_
  refine AWP.loop (γ := Nat) [0, 1, 7] (fun k => [(8, .int .i64 k)]) (fun k => []) (fun k => k ≤ xs.length ∧ (xs.take k).all (fun x => !p x)) (fun k => xs.length - k) 0 ⟨rfl, trivial⟩ ⟨_, (.refl _), rfl⟩ (⟨Nat.zero_le _, rfl⟩) ?_
  rintro k ⟨hk, hall⟩
  refine AWP.seq ?_
  refine AWP.region rfl ?_
  refine AOps.val (Gv.lss rfl rfl) ?_
  refine AOps.nil ?_
  refine AWP.seq ?_
  refine AWP.condP rfl (fun ck => ?_) (fun ck => ?_)
  · skip
    have hk2 : k < xs.length := by omega
    refine AWP.skip ?_
    refine AWP.seq ?_
    refine AWP.block ?_
    refine AWP.seq ?_
    refine AWP.region rfl ?_
    refine AOps.val (Gv.move (v := .int _ _) rfl) ?_
    refine AOps.val (Gv.assign (v := .int _ _) rfl) ?_
    refine AOps.nil ?_
    refine AWP.seq ?_
    refine AWP.region rfl ?_
    refine AOps.val (Gv.move (v := .fn _ _ _) rfl) ?_
    refine AOps.val (Gv.move (v := .fro _ _) rfl) ?_
    refine AOps.val (Gv.move (v := .int _ _) rfl) ?_
    refine AOps.val (Gv.idxM Tryz.underlying23 Tryz.sizeOf38 rfl rfl rfl (List.getElem?_eq_getElem (by omega))) ?_
    refine AOps.val (Gv.loadWF Tryz.isAgg38 Tryz.sizeOf38 rfl rfl) ?_
    refine AOps.callVP rfl (hp _ (List.getElem_mem hk2)) rfl ?_
    refine AOps.nil ?_
    refine AWP.cond rfl (fun cp => ?_) (fun cp => ?_)
    · skip
      refine AWP.seq ?_
      refine AWP.region rfl ?_
      refine AOps.val (Gv.move (v := .int _ _) rfl) ?_
      refine AOps.val (Gv.assign (v := .int _ _) rfl) ?_
      refine AOps.nil ?_
      refine AWP.ret ?_
      repeat (first | refine aseqQ_ret ?_ | refine ablockQ_ret ?_)
      refine afin.t1 (x := .int _ _) rfl ?_
      rw [firstI_drop p xs k hk hall, List.drop_eq_getElem_cons hk2, firstI, if_pos cp]
    · skip
      refine AWP.skip ?_
      refine AWP.region rfl ?_
      refine AOps.val (Gv.add rfl rfl (by unfold I64; omega)) ?_
      refine AOps.val (Gv.move (v := .int _ _) rfl) ?_
      refine AOps.nil ?_
      exact ⟨k + 1, ⟨rfl, rfl, rfl, trivial⟩, ⟨rfl, trivial⟩, ⟨_, (.refl _), rfl⟩, ⟨hk2, by rw [List.take_succ_eq_append_getElem hk2, List.all_append, hall]; simp [cp]⟩, by omega⟩
  · skip
    have hkn : k = xs.length := by omega
    refine AWP.exit ?_
    refine AWP.seq ?_
    refine AWP.region rfl ?_
    refine AOps.val (Gv.assign (v := .int _ _) rfl) ?_
    refine AOps.nil ?_
    refine AWP.ret ?_
    repeat (first | refine aseqQ_ret ?_ | refine ablockQ_ret ?_)
    refine afin.t1 (x := .int _ _) rfl ?_
    rw [firstI_drop p xs k hk hall, hkn, List.drop_length, firstI]
theorem indexFuncB_spec {p : PBlock → Bool} {fn : FuncId} {c : List AV} (xs : List PBlock) (hl : xs.length ≤ 281474976710656) (hp : ∀ x ∈ xs, AFun Tryz.prog E fn ([.agg (encBlk x)] ++ c) (.bool (p x))) :
    AFun Tryz.prog E 26 [.fro 7 (xs.map encBlk), .fn fn [] c] (.int .i64 (firstI p xs 0)) := by
  refine ACall.intro Tryz.func26 rfl (by decide) rfl ?_
  refine AWP.seq ?_
  refine AWP.region rfl ?_
  refine AOps.val (Gv.assign (v := .int _ _) rfl) ?_
  refine AOps.nil ?_
  refine AWP.seq ?_
  refine AWP.seq ?_
  refine AWP.region rfl ?_
  refine AOps.val (Gv.move (v := .fro _ _) rfl) ?_
  refine AOps.val (Gv.lenM Tryz.underlying25 rfl) ?_
  refine AOps.val (Gv.move (v := .int _ _) rfl) ?_
  refine AOps.nil ?_
  refine AWP.block ?_
  refine AWP.loop (γ := Nat) [0, 1, 7] (fun k => [(8, .int .i64 k)]) (fun k => []) (fun k => k ≤ xs.length ∧ (xs.take k).all (fun x => !p x)) (fun k => xs.length - k) 0 ⟨rfl, trivial⟩ ⟨_, (.refl _), rfl⟩ (⟨Nat.zero_le _, rfl⟩) ?_
  rintro k ⟨hk, hall⟩
  refine AWP.seq ?_
  refine AWP.region rfl ?_
  refine AOps.val (Gv.lss rfl rfl) ?_
  refine AOps.nil ?_
  refine AWP.seq ?_
  refine AWP.condP rfl (fun ck => ?_) (fun ck => ?_)
  · skip
    have hk2 : k < xs.length := by omega
    refine AWP.skip ?_
    refine AWP.seq ?_
    refine AWP.block ?_
    refine AWP.seq ?_
    refine AWP.region rfl ?_
    refine AOps.val (Gv.move (v := .int _ _) rfl) ?_
    refine AOps.val (Gv.assign (v := .int _ _) rfl) ?_
    refine AOps.nil ?_
    refine AWP.seq ?_
    refine AWP.region rfl ?_
    refine AOps.val (Gv.move (v := .fn _ _ _) rfl) ?_
    refine AOps.val (Gv.move (v := .fro _ _) rfl) ?_
    refine AOps.val (Gv.move (v := .int _ _) rfl) ?_
    refine AOps.val (Gv.idxM Tryz.underlying25 Tryz.sizeOf48 rfl rfl rfl (List.getElem?_eq_getElem (by omega))) ?_
    refine AOps.val (Gv.loadWF Tryz.isAgg48 Tryz.sizeOf48 rfl rfl) ?_
    refine AOps.callVP rfl (hp _ (List.getElem_mem hk2)) rfl ?_
    refine AOps.nil ?_
    refine AWP.cond rfl (fun cp => ?_) (fun cp => ?_)
    · skip
      refine AWP.seq ?_
      refine AWP.region rfl ?_
      refine AOps.val (Gv.move (v := .int _ _) rfl) ?_
      refine AOps.val (Gv.assign (v := .int _ _) rfl) ?_
      refine AOps.nil ?_
      refine AWP.ret ?_
      repeat (first | refine aseqQ_ret ?_ | refine ablockQ_ret ?_)
      refine afin.t1 (x := .int _ _) rfl ?_
      rw [firstI_drop p xs k hk hall, List.drop_eq_getElem_cons hk2, firstI, if_pos cp]
    · skip
      refine AWP.skip ?_
      refine AWP.region rfl ?_
      refine AOps.val (Gv.add rfl rfl (by unfold I64; omega)) ?_
      refine AOps.val (Gv.move (v := .int _ _) rfl) ?_
      refine AOps.nil ?_
      exact ⟨k + 1, ⟨rfl, rfl, rfl, trivial⟩, ⟨rfl, trivial⟩, ⟨_, (.refl _), rfl⟩, ⟨hk2, by rw [List.take_succ_eq_append_getElem hk2, List.all_append, hall]; simp [cp]⟩, by omega⟩
  · skip
    have hkn : k = xs.length := by omega
    refine AWP.exit ?_
    refine AWP.seq ?_
    refine AWP.region rfl ?_
    refine AOps.val (Gv.assign (v := .int _ _) rfl) ?_
    refine AOps.nil ?_
    refine AWP.ret ?_
    repeat (first | refine aseqQ_ret ?_ | refine ablockQ_ret ?_)
    refine afin.t1 (x := .int _ _) rfl ?_
    rw [firstI_drop p xs k hk hall, hkn, List.drop_length, firstI]
theorem find1_spec (v : PVar) (s : ByteArray) : AFun Tryz.prog E 25 ([.agg (encVar v)] ++ [.pf [.str s]]) (.bool (decide (v.name = s))) := by
  refine ACall.intro Tryz.func25 rfl (by decide) rfl ?_
  refine AWP.seq ?_
  refine AWP.region rfl ?_
  refine AOps.boxF (cs := _) rfl rfl rfl ?_
  refine AOps.val (Gv.assign (v := .bool _) rfl) ?_
  refine AOps.nil ?_
  refine AWP.seq ?_
  refine AWP.region rfl ?_
  refine AOps.val (Gv.fieldF Tryz.underlying38 rfl Tryz.sizeOf9 (by decide) rfl rfl) ?_
  refine AOps.val (Gv.load1F (c := .str _) Tryz.isAgg9 rfl) ?_
  refine AOps.val (Gv.load1F (c := .str _) Tryz.isAgg9 rfl) ?_
  refine AOps.val (Gv.eqlT rfl rfl) ?_
  refine AOps.val (Gv.assign (v := .bool _) rfl) ?_
  refine AOps.nil ?_
  refine AWP.ret ?_
  repeat (first | refine aseqQ_ret ?_ | refine ablockQ_ret ?_)
  refine afin.t1 (x := .bool _) rfl ?_
  rfl
theorem block1_spec (v : PBlock) (s : ByteArray) : AFun Tryz.prog E 27 ([.agg (encBlk v)] ++ [.pf [.str s]]) (.bool (decide (v.name = s))) := by
  refine ACall.intro Tryz.func27 rfl (by decide) rfl ?_
  refine AWP.seq ?_
  refine AWP.region rfl ?_
  refine AOps.boxF (cs := _) rfl rfl rfl ?_
  refine AOps.val (Gv.assign (v := .bool _) rfl) ?_
  refine AOps.nil ?_
  refine AWP.seq ?_
  refine AWP.region rfl ?_
  refine AOps.val (Gv.fieldF Tryz.underlying48 rfl Tryz.sizeOf9 (by decide) rfl rfl) ?_
  refine AOps.val (Gv.load1F (c := .str _) Tryz.isAgg9 rfl) ?_
  refine AOps.val (Gv.load1F (c := .str _) Tryz.isAgg9 rfl) ?_
  refine AOps.val (Gv.eqlT rfl rfl) ?_
  refine AOps.val (Gv.assign (v := .bool _) rfl) ?_
  refine AOps.nil ?_
  refine AWP.ret ?_
  repeat (first | refine aseqQ_ret ?_ | refine ablockQ_ret ?_)
  refine afin.t1 (x := .bool _) rfl ?_
  rfl
def max0 (a : Int) : Int := if (0 : Int) > a then 0 else a
theorem find_spec (f : PFunc) (s : ByteArray) (hl : f.vars.length ≤ 281474976710656) : AFun Tryz.prog E 12 [.agg (encF f), .str s] (.tup [.int .i64 (max0 (firstI (fun v => decide (v.name = s)) f.vars 0)), .bool (decide (0 ≤ firstI (fun v => decide (v.name = s)) f.vars 0))]) := by
  refine ACall.intro Tryz.func12 rfl (by decide) rfl ?_
  refine AWP.seq ?_
  refine AWP.region rfl ?_
  refine AOps.boxF (cs := _) rfl rfl rfl ?_
  refine AOps.boxF (cs := [_]) rfl rfl rfl ?_
  refine AOps.val (Gv.assign (v := .int _ _) rfl) ?_
  refine AOps.val (Gv.assign (v := .bool _) rfl) ?_
  refine AOps.nil ?_
  refine AWP.seq ?_
  refine AWP.region rfl ?_
  refine AOps.val (Gv.fieldF Tryz.underlying27 rfl Tryz.sizeOf23 (by decide) rfl rfl) ?_
  refine AOps.val (Gv.load1F (c := .fro _ _) Tryz.isAgg23 rfl) ?_
  refine AOps.val (Gv.func rfl rfl) ?_
  refine AOps.callP (indexFuncV_spec f.vars hl (fun v _ => find1_spec v s)) rfl ?_
  refine AOps.val (Gv.assign (v := .int _ _) rfl) ?_
  refine AOps.nil ?_
  refine AWP.seq ?_
  refine AWP.region rfl ?_
  refine AOps.val (Gv.move (v := .int _ _) rfl) ?_
  refine AOps.val (Gv.maxI rfl rfl) ?_
  refine AOps.val (Gv.move (v := .int _ _) rfl) ?_
  refine AOps.val (Gv.geq rfl rfl) ?_
  refine AOps.val (Gv.assign (v := .int _ _) rfl) ?_
  refine AOps.val (Gv.assign (v := .bool _) rfl) ?_
  refine AOps.nil ?_
  refine AWP.ret ?_
  repeat (first | refine aseqQ_ret ?_ | refine ablockQ_ret ?_)
  refine afin.t2 (x := .int _ _) (y := .bool _) rfl rfl ?_
  rfl
theorem block_spec (f : PFunc) (s : ByteArray) (hl : f.blocks.length ≤ 281474976710656) : AFun Tryz.prog E 13 [.agg (encF f), .str s] (.tup [.int .i64 (max0 (firstI (fun v => decide (v.name = s)) f.blocks 0)), .bool (decide (0 ≤ firstI (fun v => decide (v.name = s)) f.blocks 0))]) := by
  refine ACall.intro Tryz.func13 rfl (by decide) rfl ?_
  refine AWP.seq ?_
  refine AWP.region rfl ?_
  refine AOps.boxF (cs := _) rfl rfl rfl ?_
  refine AOps.boxF (cs := [_]) rfl rfl rfl ?_
  refine AOps.val (Gv.assign (v := .int _ _) rfl) ?_
  refine AOps.val (Gv.assign (v := .bool _) rfl) ?_
  refine AOps.nil ?_
  refine AWP.seq ?_
  refine AWP.region rfl ?_
  refine AOps.val (Gv.fieldF Tryz.underlying27 rfl Tryz.sizeOf25 (by decide) rfl rfl) ?_
  refine AOps.val (Gv.load1F (c := .fro _ _) Tryz.isAgg25 rfl) ?_
  refine AOps.val (Gv.func rfl rfl) ?_
  refine AOps.callP (indexFuncB_spec f.blocks hl (fun v _ => block1_spec v s)) rfl ?_
  refine AOps.val (Gv.assign (v := .int _ _) rfl) ?_
  refine AOps.nil ?_
  refine AWP.seq ?_
  refine AWP.region rfl ?_
  refine AOps.val (Gv.move (v := .int _ _) rfl) ?_
  refine AOps.val (Gv.maxI rfl rfl) ?_
  refine AOps.val (Gv.move (v := .int _ _) rfl) ?_
  refine AOps.val (Gv.geq rfl rfl) ?_
  refine AOps.val (Gv.assign (v := .int _ _) rfl) ?_
  refine AOps.val (Gv.assign (v := .bool _) rfl) ?_
  refine AOps.nil ?_
  refine AWP.ret ?_
  repeat (first | refine aseqQ_ret ?_ | refine ablockQ_ret ?_)
  refine afin.t2 (x := .int _ _) (y := .bool _) rfl rfl ?_
  rfl
theorem first_un {α : Type} {g : α → ByteArray} {l : List α} (hu : Unlike (l.map g)) {k : Nat} (hk : k < l.length) : firstI (fun v => decide (g v = g l[k])) l 0 = (k : Int) := by
  have h : ∀ j (hj : j < k), g l[j] ≠ g l[k] := fun j hj e => by
    refine hu k (by simpa using hk) ?_
    rw [List.getElem_map, ← e, ← List.map_take]
    exact List.mem_map.2 ⟨l[j], List.mem_take_iff_getElem.2 ⟨j, by omega, rfl⟩, rfl⟩
  rw [firstI_at _ l 0 k hk (decide_eq_true rfl) (fun j hj => decide_eq_false (h j hj)), Nat.zero_add]
theorem first_no {α : Type} {p : α → Bool} : ∀ {l : List α} {b : Nat}, (∀ x ∈ l, p x = false) → firstI p l b = -1
  | [], _, _ => rfl
  | x :: l, b, h => by rw [firstI, if_neg (by rw [h x (.head _)]; simp), first_no fun y hy => h y (.tail _ hy)]
def livesT : PFunc := ⟨[⟨⟨#[110]⟩, 0⟩], [0], [⟨⟨#[97]⟩, [], [], ⟨2, 0, 0, 0⟩⟩]⟩
theorem one_name (n : Nat) (hn : n < 128) (hl : nameR [(n : Int)] = true) : nameB (strL (encs [(n : Int)])) = true := by
  rw [nameB_R, runes_encs (rs := [(n : Int)]) (fun c hc => by rw [List.mem_singleton.1 hc]; exact .inl ⟨by omega, by omega⟩) (Nat.zero_le _) (by rw [strL_list]; rfl)]
  exact hl
theorem livesT_shaped : ShapedP livesT := by
  have h1 : nameB ⟨#[110]⟩ = true := one_name 110 (by omega) (by decide)
  have h2 : nameB ⟨#[97]⟩ = true := one_name 97 (by omega) (by decide)
  refine ⟨by decide, fun i h => ?_, fun i h => ?_, fun i h => ?_, by decide, fun b hb => ?_⟩
  · have : i = 0 := by have : i < 1 := h; omega
    subst this; rfl
  · have : i = 0 := by have : i < 1 := h; omega
    subst this; exact ⟨h1, (by decide : (0 : Int) ≤ 0), (by decide : (0 : Int) ≤ 2), by intro s hs; cases hs⟩
  · have : i = 0 := by have : i < 1 := h; omega
    subst this; exact ⟨h2, by intro s hs; cases hs⟩
  · have hb : b = ⟨⟨#[97]⟩, [], [], ⟨2, 0, 0, 0⟩⟩ := List.mem_singleton.1 hb
    subst hb
    exact ⟨(fun p hp => by cases hp), (fun p hp => by cases hp), by decide⟩
theorem livesT_text : textF livesT = ⟨#[102, 117, 110, 99, 32, 110, 58, 105, 110, 116, 10, 98, 108, 111, 99, 107, 32, 97, 10, 114, 101, 116, 32, 110, 10]⟩ := by decide
theorem livesT_parse : parseC ⟨#[102, 117, 110, 99, 32, 110, 58, 105, 110, 116, 10, 98, 108, 111, 99, 107, 32, 97, 10, 114, 101, 116, 32, 110, 10]⟩ = (0, some livesT) := by
  have h := parse_text livesT_shaped (fun b hb x hx => by
    have hb : b = ⟨⟨#[97]⟩, [], [], ⟨2, 0, 0, 0⟩⟩ := List.mem_singleton.1 hb
    subst hb; cases hx)
  rw [livesT_text] at h
  rw [h, if_neg (by decide)]
theorem lives4_spec (hL : Letters E) (hT : Pows E) (hV : Vars0 E) : AFun Tryz.prog E 6 [] (.bool true) := by
  have hp := zparse_spec (E := E) ⟨#[102, 117, 110, 99, 32, 110, 58, 105, 110, 116, 10, 98, 108, 111, 99, 107, 32, 97, 10, 114, 101, 116, 32, 110, 10]⟩ (by decide) hL hT hV
  rw [livesT_parse] at hp
  dsimp only [Option.getD] at hp
  refine ACall.intro Tryz.func6 rfl (by decide) rfl ?_
  refine AWP.seq ?_
  refine AWP.region rfl ?_
  refine AOps.val (Gv.assign (v := .bool _) rfl) ?_
  refine AOps.nil ?_
  refine AWP.seq ?_
  refine AWP.region rfl ?_
  refine AOps.callP (hp) rfl ?_
  refine AOps.val (Gv.move (v := .tup _) rfl) ?_
  refine AOps.val (Gv.extract (v := .agg _) rfl rfl) ?_
  refine AOps.val (Gv.extract (v := .int _ _) rfl rfl) ?_
  refine AOps.alloc (cs := [.raw (.slice none 0 0), .raw (.slice none 0 0), .raw (.slice none 0 0)]) Tryz.zeroValue27 rfl rfl ?_
  intro i1
  refine AOps.storeW Tryz.sizeOf27 rfl rfl rfl rfl rfl rfl .head rfl ?_
  refine AOps.val (Gv.assign (v := .int _ _) rfl) ?_
  refine AOps.nil ?_
  refine AWP.seq ?_
  refine AWP.region rfl ?_
  refine AOps.val (Gv.move (v := .int _ _) rfl) ?_
  refine AOps.val (Gv.eqlI rfl rfl) ?_
  refine AOps.val (Gv.move (v := .bool _) rfl) ?_
  refine AOps.guardT rfl rfl rfl ?_
  refine AOps.val (Gv.fieldO Tryz.underlying27 rfl Tryz.sizeOf25 (by decide) rfl rfl) ?_
  refine AOps.guardT rfl rfl rfl ?_
  refine AOps.val (Gv.load1C (c := .fro _ _) Tryz.isAgg25 rfl ⟨_, .head⟩ rfl) ?_
  refine AOps.guardT rfl rfl rfl ?_
  refine AOps.val (Gv.lenM Tryz.underlying25 rfl) ?_
  refine AOps.guardT rfl rfl rfl ?_
  refine AOps.val (Gv.eqlI rfl rfl) ?_
  refine AOps.val (Gv.pickT (v := .bool _) rfl rfl rfl) ?_
  refine AOps.val (Gv.move (v := .bool _) rfl) ?_
  refine AOps.guardT rfl rfl rfl ?_
  refine AOps.val (Gv.fieldO Tryz.underlying27 rfl Tryz.sizeOf24 (by decide) rfl rfl) ?_
  refine AOps.guardT rfl rfl rfl ?_
  refine AOps.val (Gv.load1C (c := .fro _ _) Tryz.isAgg24 rfl ⟨_, .head⟩ rfl) ?_
  refine AOps.guardT rfl rfl rfl ?_
  refine AOps.val (Gv.lenM Tryz.underlying24 rfl) ?_
  refine AOps.guardT rfl rfl rfl ?_
  refine AOps.val (Gv.eqlI rfl rfl) ?_
  refine AOps.val (Gv.pickT (v := .bool _) rfl rfl rfl) ?_
  refine AOps.val (Gv.move (v := .bool _) rfl) ?_
  refine AOps.guardT rfl rfl rfl ?_
  refine AOps.val (Gv.fieldO Tryz.underlying27 rfl Tryz.sizeOf25 (by decide) rfl rfl) ?_
  refine AOps.guardT rfl rfl rfl ?_
  refine AOps.val (Gv.load1C (c := .fro _ _) Tryz.isAgg25 rfl ⟨_, .head⟩ rfl) ?_
  refine AOps.guardT rfl rfl rfl ?_
  refine AOps.val (Gv.idxM (j := 0) Tryz.underlying25 Tryz.sizeOf48 rfl rfl rfl rfl) ?_
  refine AOps.guardT rfl rfl rfl ?_
  refine AOps.val (Gv.fieldF Tryz.underlying48 rfl Tryz.sizeOf46 (by decide) rfl rfl) ?_
  refine AOps.guardT rfl rfl rfl ?_
  refine AOps.val (Gv.fieldF Tryz.underlying46 rfl Tryz.sizeOf43 (by decide) rfl rfl) ?_
  refine AOps.guardT rfl rfl rfl ?_
  refine AOps.val (Gv.load1F (c := .int _ _) Tryz.isAgg43 rfl) ?_
  refine AOps.guardT rfl rfl rfl ?_
  refine AOps.val (Gv.eqlI rfl rfl) ?_
  refine AOps.val (Gv.pickT (v := .bool _) rfl rfl rfl) ?_
  refine AOps.val (Gv.move (v := .bool _) rfl) ?_
  refine AOps.guardT rfl rfl rfl ?_
  refine AOps.val (Gv.fieldO Tryz.underlying27 rfl Tryz.sizeOf23 (by decide) rfl rfl) ?_
  refine AOps.guardT rfl rfl rfl ?_
  refine AOps.val (Gv.load1C (c := .fro _ _) Tryz.isAgg23 rfl ⟨_, .head⟩ rfl) ?_
  refine AOps.guardT rfl rfl rfl ?_
  refine AOps.val (Gv.idxM (j := 0) Tryz.underlying23 Tryz.sizeOf38 rfl rfl rfl rfl) ?_
  refine AOps.guardT rfl rfl rfl ?_
  refine AOps.val (Gv.loadWF Tryz.isAgg38 Tryz.sizeOf38 rfl rfl) ?_
  refine AOps.guardT rfl rfl rfl ?_
  refine AOps.val (Gv.build (cps := [(0, [_]), (1, [_])]) (rs := [_, _]) pl38 rfl rfl rfl) ?_
  refine AOps.guardT rfl rfl rfl ?_
  refine AOps.val (Gv.eqlP (xs := [.string _, .int _ _]) (ys := [.string _, .int _ _]) (by kernel_rfl) rfl rfl (fun w => eq_var _ _ _ _ w)) ?_
  refine AOps.val (Gv.pickT (v := .bool _) rfl rfl rfl) ?_
  refine AOps.val (Gv.assign (v := .bool _) rfl) ?_
  refine AOps.nil ?_
  refine AWP.ret ?_
  repeat (first | refine aseqQ_ret ?_ | refine ablockQ_ret ?_)
  refine afin.t1 (x := .bool _) rfl ?_
  rfl
end Go.Proofs.YtdkhlgiohpdihaaGreatDoor
namespace Go.Proofs.YtdkhlgiohpdihaaGreatDoor
open Go.Proofs Go.Lib Go.Shelf Go.RowKit
set_option maxRecDepth 20000
variable {E : World}
theorem find_at {f g : PFunc} (hg : g = f) (hu : Unlike (f.vars.map PVar.name)) (hl : f.vars.length ≤ 1000) {k : Nat} (hk : k < f.vars.length) :
    AFun Tryz.prog E 12 [.agg (encF g), .str f.vars[k].name] (.tup [.int .i64 (k : Int), .bool true]) := by
  subst hg
  have h := find_spec (E := E) g g.vars[k].name (by omega)
  rw [first_un (g := PVar.name) hu hk, decide_eq_true (by omega : (0 : Int) ≤ (k : Int))] at h
  have hm : max0 (k : Int) = (k : Int) := by unfold max0; rw [if_neg (by omega)]
  rw [hm] at h
  exact h
theorem block_at {f g : PFunc} (hg : g = f) (hu : Unlike (f.blocks.map PBlock.name)) (hl : f.blocks.length ≤ 1000) {k : Nat} (hk : k < f.blocks.length) :
    AFun Tryz.prog E 13 [.agg (encF g), .str f.blocks[k].name] (.tup [.int .i64 (k : Int), .bool true]) := by
  subst hg
  have h := block_spec (E := E) g g.blocks[k].name (by omega)
  rw [first_un (g := PBlock.name) hu hk, decide_eq_true (by omega : (0 : Int) ≤ (k : Int))] at h
  have hm : max0 (k : Int) = (k : Int) := by unfold max0; rw [if_neg (by omega)]
  rw [hm] at h
  exact h
theorem find_none {f g : PFunc} (hg : g = f) (hn : ∀ v ∈ f.vars, v.name ≠ ⟨#[]⟩) (hl : f.vars.length ≤ 1000) :
    AFun Tryz.prog E 12 [.agg (encF g), .str ⟨#[]⟩] (.tup [.int .i64 0, .bool false]) := by
  subst hg
  have h := find_spec (E := E) g ⟨#[]⟩ (by omega)
  rw [first_no fun v hv => decide_eq_false (hn v hv)] at h
  exact h
theorem block_none {f g : PFunc} (hg : g = f) (hn : ∀ v ∈ f.blocks, v.name ≠ ⟨#[]⟩) (hl : f.blocks.length ≤ 1000) :
    AFun Tryz.prog E 13 [.agg (encF g), .str ⟨#[]⟩] (.tup [.int .i64 0, .bool false]) := by
  subst hg
  have h := block_spec (E := E) g ⟨#[]⟩ (by omega)
  rw [first_no fun v hv => decide_eq_false (hn v hv)] at h
  exact h
theorem parsed_ex {f : PFunc} (hS : ShapedP f) (hn : NumsOk f) : ∃ g e, parseC (textF f) = (e, g) ∧ (16384 < (textF f).size → e = 4) ∧ (¬ 16384 < (textF f).size → e = 0 ∧ g.getD emptyF = f) := by
  refine ⟨(parseC (textF f)).2, (parseC (textF f)).1, rfl, ?_⟩
  rw [parse_text hS hn]
  constructor <;> intro h
  · rw [if_pos h]
  · rw [if_neg h]; exact ⟨rfl, rfl⟩
theorem tok_of {f : PFunc} (hl : little f) : TOk f := by
  obtain ⟨h1, h2, h3, h4, h5, _⟩ := hl
  refine ⟨by omega, by omega, fun v hv => by have := h4 v hv; omega, fun b hb => by have := (h5 b hb).1; omega, fun b hb => ?_⟩
  obtain ⟨g1, g2, g3, g4, g5⟩ := h5 b hb
  exact ⟨by omega, by omega, fun p hp => by have := g4 p hp; omega⟩
theorem textParses_spec (f : PFunc) (hw : wFunc f) (hN : NumsOk f) (hL : Letters E) (hT : Pows E) (hV : Vars0 E) :
    AFun Tryz.prog E 4 [.agg (encF f)] (.bool true) := by
  refine ACall.intro Tryz.func4 rfl (by decide) rfl ?_
  refine AWP.seq ?_
  refine AWP.region rfl ?_
  refine AOps.boxF (cs := _) rfl rfl rfl ?_
  refine AOps.val (Gv.assign (v := .bool _) rfl) ?_
  refine AOps.nil ?_
  refine AWP.seq ?_
  refine AWP.seq ?_
  refine AWP.region rfl ?_
  refine AOps.callP (lives4_spec hL hT hV) rfl ?_
  refine AOps.val (Gv.not rfl) ?_
  refine AOps.val (Gv.move (v := .bool _) rfl) ?_
  refine AOps.guardT rfl rfl rfl ?_
  refine AOps.val (Gv.loadWF Tryz.isAgg27 Tryz.sizeOf27 rfl rfl) ?_
  refine AOps.guardT rfl rfl rfl ?_
  refine AOps.callA rfl (Part.perm (.rest _)) (few_ex f hw) ?_
  rintro r22 O22 ⟨b, rfl, rfl, hb⟩
  cases b
  · skip
    refine AOps.guardT rfl rfl rfl ?_
    refine AOps.val (Gv.not rfl) ?_
    refine AOps.val (Gv.pickF (v := .bool _) rfl rfl rfl) ?_
    refine AOps.val (Gv.move (v := .bool _) rfl) ?_
    refine AOps.guardFd rfl rfl rfl ?_
    refine AOps.guardFd rfl rfl rfl ?_
    refine AOps.guardFd rfl rfl rfl ?_
    refine AOps.val (Gv.pickT (v := .bool _) rfl rfl rfl) ?_
    refine AOps.nil ?_
    refine AWP.condT rfl rfl ?_
    refine AWP.seq ?_
    refine AWP.region rfl ?_
    refine AOps.callP (lives4_spec hL hT hV) rfl ?_
    refine AOps.val (Gv.assign (v := .bool _) rfl) ?_
    refine AOps.nil ?_
    refine AWP.ret ?_
    repeat (first | refine aseqQ_ret ?_ | refine ablockQ_ret ?_)
    refine afin.t1 (x := .bool _) rfl ?_
    rfl
  · skip
    have hlit := hb rfl
    have hsm := hlit.small
    refine AOps.guardT rfl rfl rfl ?_
    refine AOps.val (Gv.not rfl) ?_
    refine AOps.val (Gv.pickF (v := .bool _) rfl rfl rfl) ?_
    refine AOps.val (Gv.move (v := .bool _) rfl) ?_
    refine AOps.guardT rfl rfl rfl ?_
    refine AOps.val (Gv.loadWF Tryz.isAgg27 Tryz.sizeOf27 rfl rfl) ?_
    refine AOps.guardT rfl rfl rfl ?_
    refine AOps.callP (lawShaped_spec f hsm.ok hsm.names hL) rfl ?_
    refine AOps.guardT rfl rfl rfl ?_
    refine AOps.val (Gv.not rfl) ?_
    refine AOps.val (Gv.pickF (v := .bool _) rfl rfl rfl) ?_
    refine AOps.nil ?_
    refine AWP.cond rfl (fun cs => ?_) (fun cs => ?_)
    · skip
      refine AWP.seq ?_
      refine AWP.region rfl ?_
      refine AOps.callP (lives4_spec hL hT hV) rfl ?_
      refine AOps.val (Gv.assign (v := .bool _) rfl) ?_
      refine AOps.nil ?_
      refine AWP.ret ?_
      repeat (first | refine aseqQ_ret ?_ | refine ablockQ_ret ?_)
      refine afin.t1 (x := .bool _) rfl ?_
      rfl
    · skip
      have hS : ShapedP f := by simpa using cs
      obtain ⟨hfo, hu1, hu2, _⟩ := shaped_ok hS
      have hl1 : f.vars.length ≤ 1000 := hsm.1
      have hl2 : f.blocks.length ≤ 1000 := hsm.2.2.1
      obtain ⟨g, e, hge, hbig, hno⟩ := parsed_ex hS hN
      refine AWP.skip ?_
      refine AWP.seq ?_
      refine AWP.region rfl ?_
      refine AOps.val (Gv.loadWF Tryz.isAgg27 Tryz.sizeOf27 rfl rfl) ?_
      refine AOps.callA rfl (Part.perm (.rest _)) (refText_own f hS (tok_of hlit) hN) ?_
      rintro r32 O32 ⟨_, rfl, rfl, hsz⟩
      have hz := zparse_spec (E := E) (textF f) (by omega) hL hT hV
      rw [hge] at hz
      dsimp only at hz
      refine AOps.val (Gv.assign (v := .str _) rfl) ?_
      refine AOps.nil ?_
      refine AWP.seq ?_
      refine AWP.region rfl ?_
      refine AOps.val (Gv.move (v := .str _) rfl) ?_
      refine AOps.callP (hz) rfl ?_
      refine AOps.val (Gv.move (v := .tup _) rfl) ?_
      refine AOps.val (Gv.extract (v := .agg _) rfl rfl) ?_
      refine AOps.val (Gv.extract (v := .int _ _) rfl rfl) ?_
      refine AOps.alloc (cs := [.raw (.slice none 0 0), .raw (.slice none 0 0), .raw (.slice none 0 0)]) Tryz.zeroValue27 rfl rfl ?_
      intro i4
      refine AOps.storeW Tryz.sizeOf27 rfl rfl rfl rfl rfl rfl .head rfl ?_
      refine AOps.val (Gv.assign (v := .int _ _) rfl) ?_
      refine AOps.nil ?_
      refine AWP.seq ?_
      refine AWP.seq ?_
      refine AWP.region rfl ?_
      refine AOps.val (Gv.move (v := .str _) rfl) ?_
      refine AOps.val (Gv.lenT Tryz.underlying9 rfl) ?_
      refine AOps.val (Gv.gtr rfl rfl) ?_
      refine AOps.nil ?_
      refine AWP.condP rfl (fun cb => ?_) (fun cb => ?_)
      · skip
        refine AWP.seq ?_
        refine AWP.region rfl ?_
        refine AOps.val (Gv.move (v := .int _ _) rfl) ?_
        refine AOps.val (Gv.eqlI rfl rfl) ?_
        refine AOps.val (Gv.assign (v := .bool _) rfl) ?_
        refine AOps.nil ?_
        refine AWP.ret ?_
        repeat (first | refine aseqQ_ret ?_ | refine ablockQ_ret ?_)
        refine afin.t1 (x := .bool _) rfl ?_
        exact jb (decide_eq_true (hbig (by omega)))
      · skip
        obtain ⟨he, hg⟩ := hno (by omega)
        refine AWP.skip ?_
        refine AWP.seq ?_
        refine AWP.seq ?_
        refine AWP.region rfl ?_
        refine AOps.val (Gv.move (v := .int _ _) rfl) ?_
        refine AOps.val (Gv.neqI rfl rfl) ?_
        refine AOps.val (Gv.move (v := .bool _) rfl) ?_
        refine AOps.guardT rfl rfl (by rw [he]; rfl) ?_
        refine AOps.val (Gv.loadWF Tryz.isAgg27 Tryz.sizeOf27 rfl rfl) ?_
        refine AOps.guardT rfl rfl (by rw [he]; rfl) ?_
        refine AOps.val (Gv.loadWC Tryz.isAgg27 Tryz.sizeOf27 rfl ⟨_, .head⟩ rfl) ?_
        refine AOps.guardT rfl rfl (by rw [he]; rfl) ?_
        refine AOps.callP (refSame_spec f (g.getD emptyF) hsm.ok) rfl ?_
        refine AOps.guardT rfl rfl (by rw [he]; rfl) ?_
        refine AOps.val (Gv.not rfl) ?_
        refine AOps.val (Gv.pickF (v := .bool _) rfl (by rw [he]; rfl) rfl) ?_
        refine AOps.nil ?_
        refine AWP.condF rfl (by rw [hg]; simp) ?_
        refine AWP.skip ?_
        refine AWP.seq ?_
        refine AWP.seq ?_
        refine AWP.region rfl ?_
        refine AOps.val (Gv.fieldF Tryz.underlying27 rfl Tryz.sizeOf23 (by decide) rfl rfl) ?_
        refine AOps.val (Gv.load1F (c := .fro _ _) Tryz.isAgg23 rfl) ?_
        refine AOps.val (Gv.lenM Tryz.underlying23 rfl) ?_
        refine AOps.val (Gv.move (v := .int _ _) rfl) ?_
        refine AOps.nil ?_
        refine AWP.block ?_
        refine AWP.loop (γ := Nat) [1, 4, 52, 53] (fun k => [(54, .int .i64 k)]) (fun k => [(i4, .cells 27 (encF (g.getD emptyF)))]) (fun k => k ≤ f.vars.length) (fun k => f.vars.length - k) 0 ⟨rfl, trivial⟩ ⟨_, (.refl _), rfl⟩ (Nat.zero_le _) ?_
        rintro k hk
        refine AWP.seq ?_
        refine AWP.region rfl ?_
        refine AOps.val (Gv.lss rfl rfl) ?_
        refine AOps.nil ?_
        refine AWP.seq ?_
        refine AWP.condP rfl (fun ck => ?_) (fun ck => ?_)
        · skip
          have hk2 : k < f.vars.length := by omega
          refine AWP.skip ?_
          refine AWP.seq ?_
          refine AWP.block ?_
          refine AWP.seq ?_
          refine AWP.region rfl ?_
          refine AOps.val (Gv.move (v := .int _ _) rfl) ?_
          refine AOps.val (Gv.idxM (j := k) Tryz.underlying23 Tryz.sizeOf38 rfl rfl rfl (List.getElem?_eq_getElem hk2)) ?_
          refine AOps.val (Gv.loadWF Tryz.isAgg38 Tryz.sizeOf38 rfl rfl) ?_
          refine AOps.alloc (cs := [.str ⟨#[]⟩, .int .i64 0]) Tryz.zeroValue38 rfl rfl ?_
          intro i7
          refine AOps.val (Gv.assign (v := .int _ _) rfl) ?_
          refine AOps.storeW Tryz.sizeOf38 rfl rfl rfl rfl rfl rfl .head rfl ?_
          refine AOps.nil ?_
          refine AWP.seq ?_
          refine AWP.region rfl ?_
          refine AOps.val (Gv.loadWC Tryz.isAgg27 Tryz.sizeOf27 rfl ⟨_, (.tail .head)⟩ rfl) ?_
          refine AOps.val (Gv.fieldO Tryz.underlying38 rfl Tryz.sizeOf9 (by decide) rfl rfl) ?_
          refine AOps.val (Gv.load1C (c := .str _) Tryz.isAgg9 rfl ⟨_, .head⟩ rfl) ?_
          refine AOps.callP (find_at hg hu1 hl1 hk2) rfl ?_
          refine AOps.val (Gv.move (v := .tup _) rfl) ?_
          refine AOps.val (Gv.extract (v := .int _ _) rfl rfl) ?_
          refine AOps.val (Gv.extract (v := .bool _) rfl rfl) ?_
          refine AOps.val (Gv.assign (v := .int _ _) rfl) ?_
          refine AOps.val (Gv.assign (v := .bool _) rfl) ?_
          refine AOps.nil ?_
          refine AWP.seq ?_
          refine AWP.region rfl ?_
          refine AOps.val (Gv.move (v := .bool _) rfl) ?_
          refine AOps.val (Gv.not rfl) ?_
          refine AOps.val (Gv.move (v := .bool _) rfl) ?_
          refine AOps.guardT rfl rfl rfl ?_
          refine AOps.val (Gv.move (v := .int _ _) rfl) ?_
          refine AOps.guardT rfl rfl rfl ?_
          refine AOps.val (Gv.move (v := .int _ _) rfl) ?_
          refine AOps.guardT rfl rfl rfl ?_
          refine AOps.val (Gv.neqI rfl rfl) ?_
          refine AOps.val (Gv.pickF (v := .bool _) rfl rfl rfl) ?_
          refine AOps.nil ?_
          refine AWP.condF rfl (by simp) ?_
          refine AWP.skip ?_
          refine AWP.region rfl ?_
          refine AOps.val (Gv.add rfl rfl (by unfold I64; omega)) ?_
          refine AOps.val (Gv.move (v := .int _ _) rfl) ?_
          refine AOps.nil ?_
          exact ⟨k + 1, ⟨rfl, rfl, rfl, rfl, trivial⟩, ⟨rfl, trivial⟩, ⟨_, (.drop (.refl _)), rfl⟩, hk2, by omega⟩
        · skip
          refine AWP.exit ?_
          refine AWP.seq ?_
          refine AWP.seq ?_
          refine AWP.region rfl ?_
          refine AOps.val (Gv.fieldF Tryz.underlying27 rfl Tryz.sizeOf25 (by decide) rfl rfl) ?_
          refine AOps.val (Gv.load1F (c := .fro _ _) Tryz.isAgg25 rfl) ?_
          refine AOps.val (Gv.lenM Tryz.underlying25 rfl) ?_
          refine AOps.val (Gv.move (v := .int _ _) rfl) ?_
          refine AOps.nil ?_
          refine AWP.block ?_
          refine AWP.loop (γ := Nat) [4, 75, 76] (fun j => [(77, .int .i64 j)]) (fun j => [(i4, .cells 27 (encF (g.getD emptyF)))]) (fun j => j ≤ f.blocks.length) (fun j => f.blocks.length - j) 0 ⟨rfl, trivial⟩ ⟨_, (.refl _), rfl⟩ (Nat.zero_le _) ?_
          rintro j hj
          refine AWP.seq ?_
          refine AWP.region rfl ?_
          refine AOps.val (Gv.lss rfl rfl) ?_
          refine AOps.nil ?_
          refine AWP.seq ?_
          refine AWP.condP rfl (fun cj => ?_) (fun cj => ?_)
          · skip
            have hj2 : j < f.blocks.length := by omega
            refine AWP.skip ?_
            refine AWP.seq ?_
            refine AWP.block ?_
            refine AWP.seq ?_
            refine AWP.region rfl ?_
            refine AOps.val (Gv.move (v := .int _ _) rfl) ?_
            refine AOps.val (Gv.idxM (j := j) Tryz.underlying25 Tryz.sizeOf48 rfl rfl rfl (List.getElem?_eq_getElem hj2)) ?_
            refine AOps.val (Gv.loadWF Tryz.isAgg48 Tryz.sizeOf48 rfl rfl) ?_
            refine AOps.alloc (cs := [.str ⟨#[]⟩, .raw (.slice none 0 0), .raw (.slice none 0 0), .int .i64 0, .int .i64 0, .int .i64 0, .int .i64 0]) Tryz.zeroValue48 rfl rfl ?_
            intro i11
            refine AOps.val (Gv.assign (v := .int _ _) rfl) ?_
            refine AOps.storeW Tryz.sizeOf48 rfl rfl rfl rfl rfl rfl .head rfl ?_
            refine AOps.nil ?_
            refine AWP.seq ?_
            refine AWP.region rfl ?_
            refine AOps.val (Gv.loadWC Tryz.isAgg27 Tryz.sizeOf27 rfl ⟨_, (.tail .head)⟩ rfl) ?_
            refine AOps.val (Gv.fieldO Tryz.underlying48 rfl Tryz.sizeOf9 (by decide) rfl rfl) ?_
            refine AOps.val (Gv.load1C (c := .str _) Tryz.isAgg9 rfl ⟨_, .head⟩ rfl) ?_
            refine AOps.callP (block_at hg hu2 hl2 hj2) rfl ?_
            refine AOps.val (Gv.move (v := .tup _) rfl) ?_
            refine AOps.val (Gv.extract (v := .int _ _) rfl rfl) ?_
            refine AOps.val (Gv.extract (v := .bool _) rfl rfl) ?_
            refine AOps.val (Gv.assign (v := .int _ _) rfl) ?_
            refine AOps.val (Gv.assign (v := .bool _) rfl) ?_
            refine AOps.nil ?_
            refine AWP.seq ?_
            refine AWP.region rfl ?_
            refine AOps.val (Gv.move (v := .bool _) rfl) ?_
            refine AOps.val (Gv.not rfl) ?_
            refine AOps.val (Gv.move (v := .bool _) rfl) ?_
            refine AOps.guardT rfl rfl rfl ?_
            refine AOps.val (Gv.move (v := .int _ _) rfl) ?_
            refine AOps.guardT rfl rfl rfl ?_
            refine AOps.val (Gv.move (v := .int _ _) rfl) ?_
            refine AOps.guardT rfl rfl rfl ?_
            refine AOps.val (Gv.neqI rfl rfl) ?_
            refine AOps.val (Gv.pickF (v := .bool _) rfl rfl rfl) ?_
            refine AOps.nil ?_
            refine AWP.condF rfl (by simp) ?_
            refine AWP.skip ?_
            refine AWP.region rfl ?_
            refine AOps.val (Gv.add rfl rfl (by unfold I64; omega)) ?_
            refine AOps.val (Gv.move (v := .int _ _) rfl) ?_
            refine AOps.nil ?_
            exact ⟨j + 1, ⟨rfl, rfl, rfl, trivial⟩, ⟨rfl, trivial⟩, ⟨_, (.drop (.refl _)), rfl⟩, hj2, by omega⟩
          · skip
            refine AWP.exit ?_
            refine AWP.seq ?_
            refine AWP.region rfl ?_
            refine AOps.val (Gv.loadWC Tryz.isAgg27 Tryz.sizeOf27 rfl ⟨_, .head⟩ rfl) ?_
            refine AOps.callP (find_none hg (fun v hv => name_ne (hfo.vars v hv).1) hl1) rfl ?_
            refine AOps.val (Gv.move (v := .tup _) rfl) ?_
            refine AOps.val (Gv.extract (v := .int _ _) rfl rfl) ?_
            refine AOps.val (Gv.extract (v := .bool _) rfl rfl) ?_
            refine AOps.val (Gv.assign (v := .int _ _) rfl) ?_
            refine AOps.val (Gv.assign (v := .bool _) rfl) ?_
            refine AOps.nil ?_
            refine AWP.seq ?_
            refine AWP.region rfl ?_
            refine AOps.val (Gv.loadWC Tryz.isAgg27 Tryz.sizeOf27 rfl ⟨_, .head⟩ rfl) ?_
            refine AOps.callP (block_none hg (fun v hv => name_ne (hfo.blks v hv).1) hl2) rfl ?_
            refine AOps.val (Gv.move (v := .tup _) rfl) ?_
            refine AOps.val (Gv.extract (v := .int _ _) rfl rfl) ?_
            refine AOps.val (Gv.extract (v := .bool _) rfl rfl) ?_
            refine AOps.val (Gv.assign (v := .int _ _) rfl) ?_
            refine AOps.val (Gv.assign (v := .bool _) rfl) ?_
            refine AOps.nil ?_
            refine AWP.seq ?_
            refine AWP.region rfl ?_
            refine AOps.val (Gv.move (v := .bool _) rfl) ?_
            refine AOps.val (Gv.not rfl) ?_
            refine AOps.val (Gv.move (v := .bool _) rfl) ?_
            refine AOps.guardT rfl rfl rfl ?_
            refine AOps.val (Gv.move (v := .bool _) rfl) ?_
            refine AOps.guardT rfl rfl rfl ?_
            refine AOps.val (Gv.not rfl) ?_
            refine AOps.val (Gv.pickT (v := .bool _) rfl rfl rfl) ?_
            refine AOps.val (Gv.assign (v := .bool _) rfl) ?_
            refine AOps.nil ?_
            refine AWP.ret ?_
            repeat (first | refine aseqQ_ret ?_ | refine ablockQ_ret ?_)
            refine afin.t1 (x := .bool _) rfl ?_
            rfl
end Go.Proofs.YtdkhlgiohpdihaaGreatDoor
namespace Go.Proofs.YtdkhlgiohpdihaaGreatDoor
open Go.Proofs Go.Lib Go.Shelf Go.RowKit Go.WideShapes
set_option maxRecDepth 20000
variable {W : World}
def wBlkN (b : PBlock) : Prop := wBlk b ∧ ∀ x ∈ b.insts, -9223372036854775808 ≤ x.num ∧ x.num ≤ 9223372036854775807
theorem decBlkN : Dec Tryz.prog W 48 encBlk wBlkN := fun en held fuel cs x h => by
  obtain ⟨xs, n, _, _, hl, hxl, hf⟩ := DataW.trod_struct Tryz.underlying48 h
  have hl : cs.length = 7 := hl.trans (by kernel_rfl)
  have hxl : xs.length = 4 := hxl
  obtain ⟨a, _, ra⟩ := Dec.at (o := 0) (k := 1) (hf 0 _ rfl) (Dec.str Tryz.underlying9) (by omega) rfl (by kernel_rfl)
  obtain ⟨b, hb, rb⟩ := Dec.at (o := 1) (k := 1) (hf 1 _ rfl) (Dec.slice (k := 3) Tryz.underlying41 decPhi (by kernel_rfl) (by decide)) (by omega) rfl (by kernel_rfl)
  obtain ⟨c, hc, rc⟩ := Dec.at (o := 2) (k := 1) (hf 2 _ rfl) (Dec.slice (k := 4) Tryz.underlying42 decInst (by kernel_rfl) (by decide)) (by omega) rfl (by kernel_rfl)
  obtain ⟨d, _, rd⟩ := Dec.at (o := 3) (k := 4) (hf 3 _ rfl) decTerm (by omega) rfl (by kernel_rfl)
  exact ⟨⟨a, b, c, d⟩, ⟨⟨hb.2, hc.2, hb.1, fun x hx => (hc.1 x hx).1⟩, fun x hx => by simpa [Lit.wf, IntKind.min, IntKind.max, IntKind.signed, IntKind.bits] using (hc.1 x hx).2⟩, RepL.fld (o := 0) ra (RepL.fld rb (RepL.fld rc (RepL.fld rd (RepL.fin hl))))⟩
theorem decFN : Dec Tryz.prog W 27 encF (fun f => wFunc f ∧ NumsOk f) := fun en held fuel cs x h => by
  obtain ⟨xs, n, _, _, hl, hxl, hf⟩ := DataW.trod_struct Tryz.underlying27 h
  have hl : cs.length = 3 := hl.trans (by kernel_rfl)
  have hxl : xs.length = 3 := hxl
  obtain ⟨a, ha, ra⟩ := Dec.at (o := 0) (k := 1) (hf 0 _ rfl) (Dec.slice (k := 2) Tryz.underlying23 decVar (by kernel_rfl) (by decide)) (by omega) rfl (by kernel_rfl)
  obtain ⟨b, hb, rb⟩ := Dec.at (o := 1) (k := 1) (hf 1 _ rfl) decIs (by omega) rfl (by kernel_rfl)
  obtain ⟨c, hc, rc⟩ := Dec.at (o := 2) (k := 1) (hf 2 _ rfl) (Dec.slice (k := 7) Tryz.underlying25 decBlkN (by kernel_rfl) (by decide)) (by omega) rfl (by kernel_rfl)
  exact ⟨⟨a, b, c⟩, ⟨⟨ha.2, hb, hc.2, fun x hx => (hc.1 x hx).1⟩, fun x hx => (hc.1 x hx).2⟩, RepL.fld (o := 0) ra (RepL.fld rb (RepL.fld rc (RepL.fin hl)))⟩
theorem len_of (h : W.ShapedOpen Tryz.prog) : ∃ m, W.cell? ⟨5, 0, none⟩ = some (.int .i64 m) :=
  cell_of_shapedOpen_int (P := Tryz.prog) (g := 5) (t := 3) (zero := #[.int .i64 0]) h (of_decide_eq_true (by kernel_rfl)) (by kernel_rfl) rfl (by kernel_rfl) (by kernel_rfl) Tryz.underlying3
theorem star_text : "*" ++ "errors.errorString" = "*errors.errorString" := by decide
theorem star_row (u : TypeId) (h : Tryz.prog.typeName? 3 u = some "*errors.errorString") : u = 238 :=
  typeName_ptr_named (nm := "errors.errorString") (by rw [star_text]; kernel_rfl) (by kernel_rfl) (by decide) u (by rw [star_text]; exact h)
theorem syn_of {text : List UInt8} {r : List (String × DataW Unit)} (h : laidMet Tryz.prog (("strconv.ErrSyntax", .iface "*errors.errorString" (.ptr (.agg [.lit (.string text)]))) :: r) W) : ∃ t p, W.cell? ⟨8, 0, none⟩ = some (.iface t p) := by
  obtain ⟨a1, t1, hv1, _⟩ := laid_sentinel (g := 8) h (by kernel_rfl) (by kernel_rfl) Tryz.underlying79 star_row Tryz.underlying238 Tryz.underlying240 rfl rfl Tryz.underlying9 (by kernel_rfl) (by kernel_rfl)
  exact ⟨_, _, World.var?_cell (g := 8) (by kernel_rfl) hv1 0⟩
theorem ran_of {text : List UInt8} {r : List (String × DataW Unit)} (h : laidMet Tryz.prog (("strconv.ErrRange", .iface "*errors.errorString" (.ptr (.agg [.lit (.string text)]))) :: r) W) : ∃ t p, W.cell? ⟨9, 0, none⟩ = some (.iface t p) := by
  obtain ⟨a1, t1, hv1, _⟩ := laid_sentinel (g := 9) h (by kernel_rfl) (by kernel_rfl) Tryz.underlying79 star_row Tryz.underlying238 Tryz.underlying240 rfl rfl Tryz.underlying9 (by kernel_rfl) (by kernel_rfl)
  exact ⟨_, _, World.var?_cell (g := 9) (by kernel_rfl) hv1 0⟩
theorem tabs_of (h1 : Lib.VarReads Tryz.prog W "unicode/utf8.first" Lib.firstData) (h2 : Lib.VarReads Tryz.prog W "unicode/utf8.acceptRanges" Lib.acceptData) : Lib.Utf8Tabs 0 1 W :=
  utf8Tabs_of_reads (ρ := Tryz.lays260_ren) { Tryz.lays260 with } ⟨by kernel_rfl, by kernel_rfl, by kernel_rfl, by kernel_rfl, by kernel_rfl, by kernel_rfl, by kernel_rfl⟩ h1 h2
theorem wrap_of {H : Type} {enc : TypeId × Value → H} {os : Os} {f : FuncId} {fn : Func} {s : ChangeSpec} {X : World → Array Value → Prop}
    (hX : ∀ (w w' : World) (args : Array Value), w.heap = w'.heap → X w args → X w' args)
    (own : ownKnob Tryz.prog.godebug = none) (started : os.Started) (noInit : Tryz.prog.inits.idxOf? f = none) (hfn : Tryz.prog.funcs[f]? = some fn)
    (witness : ∃ (w : World) (tape : Tape) (i : Input), w.os = os ∧ (w.forCall tape i).Shaped Tryz.checked.prog ∧ i.vars = [] ∧ Input.okWide Tryz.checked.prog (w.forCall tape i) .any w.heap.size f i ∧
      ((s.pre enc Tryz.checked.prog fn [] false (w.forCall tape i).memory i.args ∧ X (w.forCall tape i).memory i.args) ∧ sizedMet enc Tryz.checked.prog fn (OpenSpec.ofChange s) false (w.forCall tape i).memory i.args) ∧ ({} : Assume).holds Tryz.checked.prog (lone (Frame.enter Tryz.checked.prog f i.args .normal) [] (w.forCall tape i)))
    (contract : ∀ (W : World) (base : Nat) (args : Array Value) (ds gs : List (DataW H)) (before : List MemPlace),
      (∀ (j : Nat) t v, fn.params[j]? = some t → args[j]? = some v → Value.okWide Tryz.prog W .any base t v) →
      DataW.Whole enc Tryz.prog fn.params.toList s.vars false W args.toList ds gs before → X W args → W.ShapedOpen Tryz.prog →
      Calls Tryz.prog f args W fun e W' => ∃ v, e = .returned v ∧ s.post enc Tryz.prog fn false true false false W args v W') :
    ReturnsInHanded {} Tryz.checked os f .any (fun w args => (s.pre enc Tryz.prog fn [] false w args ∧ X w args) ∧ sizedMet enc Tryz.prog fn (OpenSpec.ofChange s) false w args) (s.post enc Tryz.prog fn false true false false) := by
  refine returnsInHanded_of_calls own started noInit witness fun w tape i _ hsh _ hok hpre _ => ?_
  obtain ⟨_, _, _, fn', hfn', _, _, _, _, hval⟩ := hok
  have e : fn' = fn := Option.some.inj (hfn'.symm.trans hfn)
  rw [e] at hval
  obtain ⟨⟨⟨ds, gs, before, hw, _⟩, hx⟩, _⟩ := hpre
  exact (contract _ _ i.args ds gs before hval (DataW.Whole.of_heap (w' := w.forCall tape i) (by rfl) hw) (hX _ _ _ (by rfl) hx) hsh).mono fun e W' ⟨v, he, hp⟩ => by rw [he]; exact ChangeSpec.post_blind hp
end Go.Proofs.YtdkhlgiohpdihaaGreatDoor
