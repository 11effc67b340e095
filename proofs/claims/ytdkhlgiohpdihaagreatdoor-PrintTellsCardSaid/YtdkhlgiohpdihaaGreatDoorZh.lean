/- A block's lines. No conditions but bounds. -/
import Derived.Test.YtdkhlgiohpdihaaGreatDoorZg
import Derived.RangeFuncFrom
import Derived.RangeFuncCalls
import Derived.RangeFuncLeaves
import Derived.Shelf.Abstract
import Derived.Shelf.RegionOpen
import Derived.WalkKit
import Derived.OwnWalkIn
import Derived.TacticsInMore
import Derived.LoopNIn
import Derived.LoopIn
import Derived.Test.YtdkhlgiohpdihaaGreatDoorZc
set_option linter.unusedVariables false
set_option linter.unusedSimpArgs false
set_option linter.unusedSectionVars false
namespace Go.Proofs.YtdkhlgiohpdihaaGreatDoor
open Go.Proofs Go.Lib Go.Shelf Go.RowKit
theorem pl148 : Places Tryz.prog 148 #[(0, 1), (1, 1), (2, 1)] [.str ⟨#[]⟩, .raw (.slice none 0 0), .raw (.slice none 0 0)] := ⟨_, _, Tryz.underlying148, Tryz.zeroValue148, fun w => by kernel_rfl, rfl⟩
set_option maxRecDepth 20000
variable {E : World}
theorem indexFuncS_spec {p : ByteArray → Bool} {fn : FuncId} {c : List AV} (xs : List ByteArray) (hl : xs.length ≤ 281474976710656) (hp : ∀ x ∈ xs, AFun Tryz.prog E fn ([.str x] ++ c) (.bool (p x))) :
    AFun Tryz.prog E 140 [.fro 1 (xs.map encS), .fn fn [] c] (.int .i64 (firstI p xs 0)) := by
  refine ACall.intro Tryz.func140 rfl (by decide) rfl ?_
  refine AWP.seq ?_
  refine AWP.region rfl ?_
  refine AOps.val (Gv.assign (v := .int _ _) rfl) ?_
  refine AOps.nil ?_
  refine AWP.seq ?_
  refine AWP.seq ?_
  refine AWP.region rfl ?_
  refine AOps.val (Gv.move (v := .fro _ _) rfl) ?_
  refine AOps.val (Gv.lenM Tryz.underlying62 rfl) ?_
  refine AOps.val (Gv.move (v := .int _ _) rfl) ?_
  refine AOps.nil ?_
  refine AWP.block ?_
  refine AWP.loop (γ := Nat) [0, 1, 7] (fun k => [(8, .int .i64 k)]) (fun k => []) (fun k => k ≤ xs.length ∧ (xs.take k).all (fun x => !p x)) (fun k => xs.length - k) 0 ⟨rfl, trivial⟩ ⟨_, (.refl _), rfl⟩ (⟨Nat.zero_le _, rfl⟩) ?_
  rintro k ⟨hk, hall⟩
  refine AWP.seq ?_
  refine AWP.region rfl ?_
  refine AOps.val (Gv.lss rfl rfl) ?_
  refine AOps.nil ?_
  refine AWP.seq ?_
  refine AWP.condP rfl (fun ck => ?_) (fun ck => ?_)
  · skip
    have hk2 : k < xs.length := by omega
    refine AWP.skip ?_
    refine AWP.seq ?_
    refine AWP.block ?_
    refine AWP.seq ?_
    refine AWP.region rfl ?_
    refine AOps.val (Gv.move (v := .int _ _) rfl) ?_
    refine AOps.val (Gv.assign (v := .int _ _) rfl) ?_
    refine AOps.nil ?_
    refine AWP.seq ?_
    refine AWP.region rfl ?_
    refine AOps.val (Gv.move (v := .fn _ _ _) rfl) ?_
    refine AOps.val (Gv.move (v := .fro _ _) rfl) ?_
    refine AOps.val (Gv.move (v := .int _ _) rfl) ?_
    refine AOps.val (Gv.idxM Tryz.underlying62 Tryz.sizeOf9 rfl rfl rfl (List.getElem?_eq_getElem (by omega))) ?_
    refine AOps.val (Gv.load1F (c := .str _) Tryz.isAgg9 rfl) ?_
    refine AOps.callVP rfl (hp _ (List.getElem_mem hk2)) rfl ?_
    refine AOps.nil ?_
    refine AWP.cond rfl (fun cp => ?_) (fun cp => ?_)
    · skip
      refine AWP.seq ?_
      refine AWP.region rfl ?_
      refine AOps.val (Gv.move (v := .int _ _) rfl) ?_
      refine AOps.val (Gv.assign (v := .int _ _) rfl) ?_
      refine AOps.nil ?_
      refine AWP.ret ?_
      repeat (first | refine aseqQ_ret ?_ | refine ablockQ_ret ?_)
      refine afin.t1 (x := .int _ _) rfl ?_
      rw [firstI_drop p xs k hk hall, List.drop_eq_getElem_cons hk2, firstI, if_pos cp]
    · skip
      refine AWP.skip ?_
      refine AWP.region rfl ?_
      refine AOps.val (Gv.add rfl rfl (by unfold I64; omega)) ?_
      refine AOps.val (Gv.move (v := .int _ _) rfl) ?_
      refine AOps.nil ?_
      exact ⟨k + 1, ⟨rfl, rfl, rfl, trivial⟩, ⟨rfl, trivial⟩, ⟨_, (.refl _), rfl⟩, ⟨hk2, by rw [List.take_succ_eq_append_getElem hk2, List.all_append, hall]; simp [cp]⟩, by omega⟩
  · skip
    have hkn : k = xs.length := by omega
    refine AWP.exit ?_
    refine AWP.seq ?_
    refine AWP.region rfl ?_
    refine AOps.val (Gv.assign (v := .int _ _) rfl) ?_
    refine AOps.nil ?_
    refine AWP.ret ?_
    repeat (first | refine aseqQ_ret ?_ | refine ablockQ_ret ?_)
    refine afin.t1 (x := .int _ _) rfl ?_
    rw [firstI_drop p xs k hk hall, hkn, List.drop_length, firstI]
theorem containsFuncS_spec {p : ByteArray → Bool} {fn : FuncId} {c : List AV} (xs : List ByteArray) (hl : xs.length ≤ 281474976710656) (hp : ∀ x ∈ xs, AFun Tryz.prog E fn ([.str x] ++ c) (.bool (p x))) :
    AFun Tryz.prog E 132 [.fro 1 (xs.map encS), .fn fn [] c] (.bool (xs.any p)) := by
  refine ACall.intro Tryz.func132 rfl (by decide) rfl ?_
  refine AWP.seq ?_
  refine AWP.region rfl ?_
  refine AOps.val (Gv.assign (v := .bool _) rfl) ?_
  refine AOps.nil ?_
  refine AWP.seq ?_
  refine AWP.region rfl ?_
  refine AOps.val (Gv.move (v := .fro _ _) rfl) ?_
  refine AOps.val (Gv.move (v := .fn _ _ _) rfl) ?_
  refine AOps.callP (indexFuncS_spec xs hl hp) rfl ?_
  refine AOps.val (Gv.geq rfl rfl) ?_
  refine AOps.val (Gv.assign (v := .bool _) rfl) ?_
  refine AOps.nil ?_
  refine AWP.ret ?_
  repeat (first | refine aseqQ_ret ?_ | refine ablockQ_ret ?_)
  refine afin.t1 (x := .bool _) rfl ?_
  rw [firstI_ge]
theorem names1_spec (s : ByteArray) (hs : s.size ≤ 100000) (hL : Letters E) : AFun Tryz.prog E 133 ([.str s] ++ []) (.bool (!scanName s)) := by
  refine ACall.intro Tryz.func133 rfl (by decide) rfl ?_
  refine AWP.seq ?_
  refine AWP.region rfl ?_
  refine AOps.val (Gv.assign (v := .bool _) rfl) ?_
  refine AOps.nil ?_
  refine AWP.seq ?_
  refine AWP.region rfl ?_
  refine AOps.val (Gv.move (v := .str _) rfl) ?_
  refine AOps.callP (zname_spec s (by omega) hL) rfl ?_
  refine AOps.val (Gv.not rfl) ?_
  refine AOps.val (Gv.assign (v := .bool _) rfl) ?_
  refine AOps.nil ?_
  refine AWP.ret ?_
  repeat (first | refine aseqQ_ret ?_ | refine ablockQ_ret ?_)
  refine afin.t1 (x := .bool _) rfl ?_
  rfl
def namesOk (l : List ByteArray) : Bool := l.all scanName
theorem names_spec (l : List ByteArray) (hl : l.length ≤ 100000) (hs : ∀ w ∈ l, w.size ≤ 100000) (hL : Letters E) : AFun Tryz.prog E 117 [.fro 1 (l.map encS)] (.bool (namesOk l)) := by
  refine ACall.intro Tryz.func117 rfl (by decide) rfl ?_
  refine AWP.seq ?_
  refine AWP.region rfl ?_
  refine AOps.val (Gv.assign (v := .bool _) rfl) ?_
  refine AOps.nil ?_
  refine AWP.seq ?_
  refine AWP.region rfl ?_
  refine AOps.val (Gv.move (v := .fro _ _) rfl) ?_
  refine AOps.callP (containsFuncS_spec l (by omega) (fun x hx => names1_spec x (hs x hx) hL)) rfl ?_
  refine AOps.val (Gv.not rfl) ?_
  refine AOps.val (Gv.assign (v := .bool _) rfl) ?_
  refine AOps.nil ?_
  refine AWP.ret ?_
  repeat (first | refine aseqQ_ret ?_ | refine ablockQ_ret ?_)
  refine afin.t1 (x := .bool _) rfl ?_
  unfold namesOk; rw [List.any_eq_not_all_not]; simp
inductive PItem where
  | phi (dst : ByteArray) (from_ args : List ByteArray)
  | inst (op : Int) (dst : ByteArray) (args : List ByteArray) (num : Int)
deriving DecidableEq
def encItem : PItem → List AV
  | .phi d f a => [.ifc 148 (.agg [.str d, .fro 1 (f.map encS), .fro 1 (a.map encS)])]
  | .inst op d a n => [.ifc 152 (.agg [.int .i64 op, .str d, .fro 1 (a.map encS), .int .i64 n])]
def evens : List ByteArray → List ByteArray
  | [] => []
  | [_] => []
  | a :: _ :: l => a :: evens l
def odds : List ByteArray → List ByteArray
  | [] => []
  | [_] => []
  | _ :: b :: l => b :: odds l
theorem evens_step {w : List ByteArray} {k : Nat} (h : 2 * k + 1 < w.length) : evens (w.drop (2 * k)) = w[2 * k] :: evens (w.drop (2 * (k + 1))) := by
  rw [List.drop_eq_getElem_cons (by omega), List.drop_eq_getElem_cons (by omega : 2 * k + 1 < w.length)]; rfl
theorem odds_step {w : List ByteArray} {k : Nat} (h : 2 * k + 1 < w.length) : odds (w.drop (2 * k)) = w[2 * k + 1] :: odds (w.drop (2 * (k + 1))) := by
  rw [List.drop_eq_getElem_cons (by omega), List.drop_eq_getElem_cons (by omega : 2 * k + 1 < w.length)]; rfl
theorem evens_end {w : List ByteArray} (h : w.length < 2) : evens w = [] := by
  match w, h with
  | [], _ => rfl
  | [_], _ => rfl
theorem odds_end {w : List ByteArray} (h : w.length < 2) : odds w = [] := by
  match w, h with
  | [], _ => rfl
  | [_], _ => rfl
def phiOk (w : List ByteArray) : Bool := decide (2 ≤ (w.length : Int)) && (decide ((w.length : Int).tmod 2 = 0) && namesOk w)
theorem tphi_spec (dst : ByteArray) (w : List ByteArray) (hl : w.length ≤ 100000) (hs : ∀ x ∈ w, x.size ≤ 100000) (hL : Letters E) :
    AFun Tryz.prog E 119 [.str dst, .fro 1 (w.map encS)] (.tup [.ifc 148 (.agg [.str dst, .fro 1 ((evens w).map encS), .fro 1 ((odds w).map encS)]), .bool (phiOk w)]) := by
  refine ACall.intro Tryz.func119 rfl (by decide) rfl ?_
  refine AWP.seq ?_
  refine AWP.region rfl ?_
  refine AOps.val (Gv.assign (v := .raw _) rfl) ?_
  refine AOps.val (Gv.assign (v := .bool _) rfl) ?_
  refine AOps.nil ?_
  refine AWP.seq ?_
  refine AWP.region rfl ?_
  refine AOps.val (Gv.move (v := .str _) rfl) ?_
  refine AOps.val (Gv.build (cps := [(0, [_])]) (rs := [_, .raw (.slice none 0 0), .raw (.slice none 0 0)]) pl148 rfl rfl rfl) ?_
  refine AOps.alloc (cs := [.str ⟨#[]⟩, .raw (.slice none 0 0), .raw (.slice none 0 0)]) Tryz.zeroValue148 rfl rfl ?_
  intro i6
  refine AOps.storeW Tryz.sizeOf148 rfl rfl rfl rfl rfl rfl .head rfl ?_
  refine AOps.nil ?_
  refine AWP.seq ?_
  refine AWP.seq ?_
  refine AWP.region rfl ?_
  refine AOps.val (Gv.assign (v := .int _ _) rfl) ?_
  refine AOps.nil ?_
  refine AWP.block ?_
  refine adoptC_wp (off := 1) (k := 1) (T := 9) (fun _ => .head) rfl ?_
  intro iF
  refine adoptC_wp (off := 2) (k := 1) (T := 9) (fun _ => (.tail .head)) rfl ?_
  intro iA
  refine AWP.loop (γ := Nat × List ByteArray × List ByteArray × Nat × Nat) [1, 6] (fun g => [(7, .int .i64 ((2 * g.1 : Nat) : Int))]) (fun g => [(g.2.2.2.2, .grow 1 9 (g.2.2.1.map encS).flatten), (g.2.2.2.1, .grow 1 9 (g.2.1.map encS).flatten), (i6, .cells 148 [.str dst, .own g.2.2.2.1 g.2.1.length, .own g.2.2.2.2 g.2.2.1.length])]) (fun g => 2 * g.1 ≤ w.length ∧ g.2.1.length = g.1 ∧ g.2.2.1.length = g.1 ∧ g.2.1 ++ evens (w.drop (2 * g.1)) = evens w ∧ g.2.2.1 ++ odds (w.drop (2 * g.1)) = odds w) (fun g => w.length - g.1) (0, [], [], iF, iA) ⟨rfl, trivial⟩ ⟨_, (.refl _), rfl⟩ (⟨Nat.zero_le _, rfl, rfl, rfl, rfl⟩) ?_
  rintro ⟨k, fs, az, jF, jA⟩ ⟨hk, hf, ha, hfe, hae⟩
  try dsimp only at *
  refine AWP.seq ?_
  refine AWP.seq ?_
  refine AWP.region rfl ?_
  refine AOps.val (Gv.move (v := .int _ _) rfl) ?_
  refine AOps.val (Gv.add rfl rfl (by unfold I64; omega)) ?_
  refine AOps.val (Gv.move (v := .fro _ _) rfl) ?_
  refine AOps.val (Gv.lenM Tryz.underlying62 rfl) ?_
  refine AOps.val (Gv.lss rfl rfl) ?_
  refine AOps.nil ?_
  refine AWP.condP rfl (fun ck => ?_) (fun ck => ?_)
  · skip
    have hk1 : 2 * k + 1 < w.length := by omega
    refine AWP.skip ?_
    refine AWP.seq ?_
    refine AWP.cutS (γ := Nat × Nat) [1, 6, 7] (fun q => []) (fun q => [(q.2, .grow 1 9 ((az ++ [w[2 * k + 1]]).map encS).flatten), (q.1, .grow 1 9 ((fs ++ [w[2 * k]]).map encS).flatten), (i6, .cells 148 [.str dst, .own q.1 (fs.length + 1), .own q.2 (az.length + 1)])]) (fun q => True) ?_ (fun _ _ h => h) ?_
    · skip
      refine AWP.block ?_
      refine AWP.regionDraw (fun j => Nat.beq j 18 || Nat.beq j 20) (by kernel_rfl) rfl (Part.perm (.l (.l (.r (.rest _))))) ?_
      refine AAny.take (i := 0) rfl (by kernel_rfl) (by kernel_rfl) (by kernel_rfl) (by kernel_rfl) (by kernel_rfl) (by kernel_rfl) (Gv.fieldO Tryz.underlying148 rfl Tryz.sizeOf62 (by decide) rfl rfl) ?_
      refine AAny.take (i := 1) rfl (by kernel_rfl) (by kernel_rfl) (by kernel_rfl) (by kernel_rfl) (by kernel_rfl) (by kernel_rfl) (Gv.load1C (c := .own _ _) Tryz.isAgg62 rfl ⟨_, .head⟩ rfl) ?_
      refine AAny.take (i := 2) rfl (by kernel_rfl) (by kernel_rfl) (by kernel_rfl) (by kernel_rfl) (by kernel_rfl) (by kernel_rfl) (Gv.move (v := .fro _ _) rfl) ?_
      refine AAny.take (i := 3) rfl (by kernel_rfl) (by kernel_rfl) (by kernel_rfl) (by kernel_rfl) (by kernel_rfl) (by kernel_rfl) (Gv.move (v := .int _ _) rfl) ?_
      refine AAny.take (i := 4) rfl (by kernel_rfl) (by kernel_rfl) (by kernel_rfl) (by kernel_rfl) (by kernel_rfl) (by kernel_rfl) (Gv.idxM Tryz.underlying62 Tryz.sizeOf9 rfl rfl rfl (List.getElem?_eq_getElem (by omega))) ?_
      refine AAny.take (i := 5) rfl (by kernel_rfl) (by kernel_rfl) (by kernel_rfl) (by kernel_rfl) (by kernel_rfl) (by kernel_rfl) (Gv.load1F (c := .str _) Tryz.isAgg9 rfl) ?_
      refine AAny.take (i := 8) rfl (by kernel_rfl) (by kernel_rfl) (by kernel_rfl) (by kernel_rfl) (by kernel_rfl) (by kernel_rfl) (Gv.fieldO Tryz.underlying148 rfl Tryz.sizeOf62 (by decide) rfl rfl) ?_
      refine AAny.take (i := 9) rfl (by kernel_rfl) (by kernel_rfl) (by kernel_rfl) (by kernel_rfl) (by kernel_rfl) (by kernel_rfl) (Gv.load1C (c := .own _ _) Tryz.isAgg62 rfl ⟨_, .head⟩ rfl) ?_
      refine AAny.takeK (i := 10) rfl (by kernel_rfl) (by kernel_rfl) (by kernel_rfl) (by kernel_rfl) (Gv.move (v := .fro _ _) rfl) ?_
      refine AAny.takeK (i := 11) rfl (by kernel_rfl) (by kernel_rfl) (by kernel_rfl) (by kernel_rfl) (Gv.move (v := .int _ _) rfl) ?_
      refine AAny.takeK (i := 12) rfl (by kernel_rfl) (by kernel_rfl) (by kernel_rfl) (by kernel_rfl) (Gv.add rfl rfl (by unfold I64; omega)) ?_
      refine AAny.takeK (i := 13) rfl (by kernel_rfl) (by kernel_rfl) (by kernel_rfl) (by kernel_rfl) (Gv.idxM (j := 2 * k + 1) Tryz.underlying62 Tryz.sizeOf9 rfl rfl (by omega) (List.getElem?_eq_getElem (by omega))) ?_
      refine AAny.takeK (i := 14) rfl (by kernel_rfl) (by kernel_rfl) (by kernel_rfl) (by kernel_rfl) (Gv.load1F (c := .str _) Tryz.isAgg9 rfl) ?_
      refine AAny.two (i := 6) (j := 15) rfl rfl (by kernel_rfl) ?_ ?_
      · skip
        refine AOps.buildSliceFF (rows := [[_]]) ps62_1 rfl rfl rfl rfl rfl ?_
        refine AOps.nil ?_
        refine AAny.two (i := 7) (j := 15) rfl rfl (by kernel_rfl) ?_ ?_
        · skip
          refine AOps.appendS (k := 1) Tryz.underlying62 Tryz.type9 rfl rfl rfl rfl rfl (fun _ => (.tail .head)) (by rw [grow_len (k := 1) (fun _ => rfl)]) (by decide) rfl (by show (_ + _) * 16 ≤ _; simp <;> omega) (by simp <;> omega) ?_
          intro i24
          refine AOps.nil ?_
          refine AAny.take (i := 17) rfl (by kernel_rfl) (by kernel_rfl) (by kernel_rfl) (by kernel_rfl) (by kernel_rfl) (by kernel_rfl) (Gv.fieldO Tryz.underlying148 rfl Tryz.sizeOf62 (by decide) rfl rfl) ?_
          refine AAny.one (i := 15) rfl (by kernel_rfl) ?_
          refine AOps.buildSliceFF (rows := [[_]]) ps62_1 rfl rfl rfl rfl rfl ?_
          refine AOps.nil ?_
          refine AAny.one (i := 16) rfl (by kernel_rfl) ?_
          refine AOps.appendS (k := 1) Tryz.underlying62 Tryz.type9 rfl rfl rfl rfl rfl (fun _ => .head) (by rw [grow_len (k := 1) (fun _ => rfl)]) (by decide) rfl (by show (_ + _) * 16 ≤ _; simp <;> omega) (by simp <;> omega) ?_
          intro i33
          refine AOps.nil ?_
          refine AAny.writes ?_
          refine AAnyW.one (i := 18) rfl (by kernel_rfl) (by kernel_rfl) ?_
          refine AOps.storeC (l := [_]) (new := [_, _, _]) Tryz.sizeOf62 rfl rfl rfl rfl rfl rfl .head rfl rfl ?_
          refine AOps.nil ?_
          refine AAnyW.one (i := 19) rfl (by kernel_rfl) (by kernel_rfl) ?_
          refine AOps.val (Gv.fieldO Tryz.underlying148 rfl Tryz.sizeOf62 (by decide) rfl rfl) ?_
          refine AOps.nil ?_
          refine AAnyW.one (i := 20) rfl (by kernel_rfl) (by kernel_rfl) ?_
          refine AOps.storeC (l := [_]) (new := [_, _, _]) Tryz.sizeOf62 rfl rfl rfl rfl rfl rfl .head rfl rfl ?_
          refine GStep.ops (GStep.perm (Pick.perm .head)) ?_
          refine GStep.ops (GStep.perm (Pick.perm (.tail (.tail .head)))) ?_
          refine GStep.ops (GStep.perm (Pick.perm (.tail (.tail .head)))) ?_
          refine AOps.nil ?_
          refine AAnyW.done (by kernel_rfl) ?_
          exact ⟨(i24, i33), ⟨rfl, rfl, rfl, trivial⟩, trivial, ⟨_, (.refl _), by rw [← grow_push (enc := encS) (rfl : az ++ [w[2 * k + 1]] = _), ← grow_push (enc := encS) (rfl : fs ++ [w[2 * k]] = _)]; rfl⟩, trivial⟩
        · skip
          refine AOps.buildSliceFF (rows := [[_]]) ps62_1 rfl rfl rfl rfl rfl ?_
          refine AOps.nil ?_
          refine AAny.one (i := 7) rfl (by kernel_rfl) ?_
          refine AOps.appendS (k := 1) Tryz.underlying62 Tryz.type9 rfl rfl rfl rfl rfl (fun _ => (.tail .head)) (by rw [grow_len (k := 1) (fun _ => rfl)]) (by decide) rfl (by show (_ + _) * 16 ≤ _; simp <;> omega) (by simp <;> omega) ?_
          intro i24
          refine AOps.nil ?_
          refine AAny.take (i := 17) rfl (by kernel_rfl) (by kernel_rfl) (by kernel_rfl) (by kernel_rfl) (by kernel_rfl) (by kernel_rfl) (Gv.fieldO Tryz.underlying148 rfl Tryz.sizeOf62 (by decide) rfl rfl) ?_
          refine AAny.one (i := 16) rfl (by kernel_rfl) ?_
          refine AOps.appendS (k := 1) Tryz.underlying62 Tryz.type9 rfl rfl rfl rfl rfl (fun _ => .head) (by rw [grow_len (k := 1) (fun _ => rfl)]) (by decide) rfl (by show (_ + _) * 16 ≤ _; simp <;> omega) (by simp <;> omega) ?_
          intro i33
          refine AOps.nil ?_
          refine AAny.writes ?_
          refine AAnyW.one (i := 18) rfl (by kernel_rfl) (by kernel_rfl) ?_
          refine AOps.storeC (l := [_]) (new := [_, _, _]) Tryz.sizeOf62 rfl rfl rfl rfl rfl rfl .head rfl rfl ?_
          refine AOps.nil ?_
          refine AAnyW.one (i := 19) rfl (by kernel_rfl) (by kernel_rfl) ?_
          refine AOps.val (Gv.fieldO Tryz.underlying148 rfl Tryz.sizeOf62 (by decide) rfl rfl) ?_
          refine AOps.nil ?_
          refine AAnyW.one (i := 20) rfl (by kernel_rfl) (by kernel_rfl) ?_
          refine AOps.storeC (l := [_]) (new := [_, _, _]) Tryz.sizeOf62 rfl rfl rfl rfl rfl rfl .head rfl rfl ?_
          refine GStep.ops (GStep.perm (Pick.perm .head)) ?_
          refine GStep.ops (GStep.perm (Pick.perm (.tail (.tail .head)))) ?_
          refine GStep.ops (GStep.perm (Pick.perm (.tail (.tail .head)))) ?_
          refine AOps.nil ?_
          refine AAnyW.done (by kernel_rfl) ?_
          exact ⟨(i24, i33), ⟨rfl, rfl, rfl, trivial⟩, trivial, ⟨_, (.refl _), by rw [← grow_push (enc := encS) (rfl : az ++ [w[2 * k + 1]] = _), ← grow_push (enc := encS) (rfl : fs ++ [w[2 * k]] = _)]; rfl⟩, trivial⟩
      · skip
        refine AOps.buildSliceFF (rows := [[_]]) ps62_1 rfl rfl rfl rfl rfl ?_
        refine AOps.nil ?_
        refine AAny.one (i := 6) rfl (by kernel_rfl) ?_
        refine AOps.buildSliceFF (rows := [[_]]) ps62_1 rfl rfl rfl rfl rfl ?_
        refine AOps.nil ?_
        refine AAny.one (i := 7) rfl (by kernel_rfl) ?_
        refine AOps.appendS (k := 1) Tryz.underlying62 Tryz.type9 rfl rfl rfl rfl rfl (fun _ => (.tail .head)) (by rw [grow_len (k := 1) (fun _ => rfl)]) (by decide) rfl (by show (_ + _) * 16 ≤ _; simp <;> omega) (by simp <;> omega) ?_
        intro i24
        refine AOps.nil ?_
        refine AAny.take (i := 17) rfl (by kernel_rfl) (by kernel_rfl) (by kernel_rfl) (by kernel_rfl) (by kernel_rfl) (by kernel_rfl) (Gv.fieldO Tryz.underlying148 rfl Tryz.sizeOf62 (by decide) rfl rfl) ?_
        refine AAny.one (i := 16) rfl (by kernel_rfl) ?_
        refine AOps.appendS (k := 1) Tryz.underlying62 Tryz.type9 rfl rfl rfl rfl rfl (fun _ => .head) (by rw [grow_len (k := 1) (fun _ => rfl)]) (by decide) rfl (by show (_ + _) * 16 ≤ _; simp <;> omega) (by simp <;> omega) ?_
        intro i33
        refine AOps.nil ?_
        refine AAny.writes ?_
        refine AAnyW.one (i := 18) rfl (by kernel_rfl) (by kernel_rfl) ?_
        refine AOps.storeC (l := [_]) (new := [_, _, _]) Tryz.sizeOf62 rfl rfl rfl rfl rfl rfl .head rfl rfl ?_
        refine AOps.nil ?_
        refine AAnyW.one (i := 19) rfl (by kernel_rfl) (by kernel_rfl) ?_
        refine AOps.val (Gv.fieldO Tryz.underlying148 rfl Tryz.sizeOf62 (by decide) rfl rfl) ?_
        refine AOps.nil ?_
        refine AAnyW.one (i := 20) rfl (by kernel_rfl) (by kernel_rfl) ?_
        refine AOps.storeC (l := [_]) (new := [_, _, _]) Tryz.sizeOf62 rfl rfl rfl rfl rfl rfl .head rfl rfl ?_
        refine GStep.ops (GStep.perm (Pick.perm .head)) ?_
        refine GStep.ops (GStep.perm (Pick.perm (.tail (.tail .head)))) ?_
        refine GStep.ops (GStep.perm (Pick.perm (.tail (.tail .head)))) ?_
        refine AOps.nil ?_
        refine AAnyW.done (by kernel_rfl) ?_
        exact ⟨(i24, i33), ⟨rfl, rfl, rfl, trivial⟩, trivial, ⟨_, (.refl _), by rw [← grow_push (enc := encS) (rfl : az ++ [w[2 * k + 1]] = _), ← grow_push (enc := encS) (rfl : fs ++ [w[2 * k]] = _)]; rfl⟩, trivial⟩
    · skip
      rintro ⟨jF, jA⟩ _
      refine AWP.region rfl ?_
      refine AOps.val (Gv.move (v := .int _ _) rfl) ?_
      refine AOps.val (Gv.add rfl rfl (by unfold I64; omega)) ?_
      refine AOps.val (Gv.assign (v := .int _ _) rfl) ?_
      refine AOps.nil ?_
      exact ⟨(k + 1, fs ++ [w[2 * k]], az ++ [w[2 * k + 1]], jF, jA), ⟨rfl, rfl, trivial⟩, ⟨congrArg (AV.int .i64) (by dsimp only; omega), trivial⟩, ⟨_, (.refl _), by dsimp only; rw [List.length_append, List.length_append]; rfl⟩, ⟨by dsimp only; omega, by simp [hf], by simp [ha], by dsimp only; rw [← hfe, evens_step hk1]; simp, by dsimp only; rw [← hae, odds_step hk1]; simp⟩, by dsimp only; omega⟩
  · skip
    have hend : (w.drop (2 * k)).length < 2 := by rw [List.length_drop]; omega
    rw [evens_end hend, List.append_nil] at hfe
    rw [odds_end hend, List.append_nil] at hae
    refine GStep.wp (GStep.knowC (off := 1) (rows := fs.map encS) (.tail .head) (.tail .head) rfl (by intro r hr; obtain ⟨x, _, rfl⟩ := List.mem_map.1 hr; rfl) (by decide) (by simp)) ?_
    refine GStep.wp (GStep.knowC (off := 2) (rows := az.map encS) .head .head rfl (by intro r hr; obtain ⟨x, _, rfl⟩ := List.mem_map.1 hr; rfl) (by decide) (by simp)) ?_
    refine AWP.exit ?_
    refine AWP.seq ?_
    refine AWP.regionDraw (fun j => false) (by kernel_rfl) rfl (Part.perm (.r (.rest _))) ?_
    refine AAny.take (i := 0) rfl (by kernel_rfl) (by kernel_rfl) (by kernel_rfl) (by kernel_rfl) (by kernel_rfl) (by kernel_rfl) (Gv.loadWC Tryz.isAgg148 Tryz.sizeOf148 rfl ⟨_, .head⟩ rfl) ?_
    refine AAny.take (i := 1) rfl (by kernel_rfl) (by kernel_rfl) (by kernel_rfl) (by kernel_rfl) (by kernel_rfl) (by kernel_rfl) (Gv.mkI Tryz.underlying148 rfl rfl) ?_
    refine AAny.take (i := 2) rfl (by kernel_rfl) (by kernel_rfl) (by kernel_rfl) (by kernel_rfl) (by kernel_rfl) (by kernel_rfl) (Gv.move (v := .fro _ _) rfl) ?_
    refine AAny.take (i := 3) rfl (by kernel_rfl) (by kernel_rfl) (by kernel_rfl) (by kernel_rfl) (by kernel_rfl) (by kernel_rfl) (Gv.lenM Tryz.underlying62 rfl) ?_
    refine AAny.take (i := 4) rfl (by kernel_rfl) (by kernel_rfl) (by kernel_rfl) (by kernel_rfl) (by kernel_rfl) (by kernel_rfl) (Gv.geq rfl rfl) ?_
    refine AAny.take (i := 5) rfl (by kernel_rfl) (by kernel_rfl) (by kernel_rfl) (by kernel_rfl) (by kernel_rfl) (by kernel_rfl) (Gv.move (v := .bool _) rfl) ?_
    refine AAny.case (s := 41) rfl (fun c1 => ?_) (fun c1 => ?_)
    · skip
      refine AAny.takeT (i := 6) rfl rfl rfl c1 (by kernel_rfl) (by kernel_rfl) (by kernel_rfl) (by kernel_rfl) (by kernel_rfl) (by kernel_rfl) (Gv.move (v := .fro _ _) rfl) ?_
      refine AAny.takeT (i := 7) rfl rfl rfl c1 (by kernel_rfl) (by kernel_rfl) (by kernel_rfl) (by kernel_rfl) (by kernel_rfl) (by kernel_rfl) (Gv.lenM Tryz.underlying62 rfl) ?_
      refine AAny.takeT (i := 8) rfl rfl rfl c1 (by kernel_rfl) (by kernel_rfl) (by kernel_rfl) (by kernel_rfl) (by kernel_rfl) (by kernel_rfl) (Gv.rem rfl rfl (by decide)) ?_
      refine AAny.takeT (i := 9) rfl rfl rfl c1 (by kernel_rfl) (by kernel_rfl) (by kernel_rfl) (by kernel_rfl) (by kernel_rfl) (by kernel_rfl) (Gv.eqlI rfl rfl) ?_
      refine AAny.take (i := 10) rfl (by kernel_rfl) (by kernel_rfl) (by kernel_rfl) (by kernel_rfl) (by kernel_rfl) (by kernel_rfl) (Gv.pickT (v := .bool _) rfl c1 rfl) ?_
      refine AAny.take (i := 11) rfl (by kernel_rfl) (by kernel_rfl) (by kernel_rfl) (by kernel_rfl) (by kernel_rfl) (by kernel_rfl) (Gv.move (v := .bool _) rfl) ?_
      refine AAny.case (s := 47) rfl (fun c2 => ?_) (fun c2 => ?_)
      · skip
        refine AAny.takeT (i := 12) rfl rfl rfl c2 (by kernel_rfl) (by kernel_rfl) (by kernel_rfl) (by kernel_rfl) (by kernel_rfl) (by kernel_rfl) (Gv.move (v := .fro _ _) rfl) ?_
        refine AAny.one (i := 13) rfl (by kernel_rfl) ?_
        refine AOps.guardT rfl rfl c2 ?_
        refine AOps.callP (names_spec w (by omega) hs hL) rfl ?_
        refine AOps.nil ?_
        refine AAny.take (i := 14) rfl (by kernel_rfl) (by kernel_rfl) (by kernel_rfl) (by kernel_rfl) (by kernel_rfl) (by kernel_rfl) (Gv.pickT (v := .bool _) rfl c2 rfl) ?_
        refine AAny.take (i := 15) rfl (by kernel_rfl) (by kernel_rfl) (by kernel_rfl) (by kernel_rfl) (by kernel_rfl) (by kernel_rfl) (Gv.assign (v := .ifc _ _) rfl) ?_
        refine AAny.take (i := 16) rfl (by kernel_rfl) (by kernel_rfl) (by kernel_rfl) (by kernel_rfl) (by kernel_rfl) (by kernel_rfl) (Gv.assign (v := .bool _) rfl) ?_
        refine AAny.done (by kernel_rfl) ?_
        refine AWP.ret ?_
        repeat (first | refine aseqQ_ret ?_ | refine ablockQ_ret ?_)
        refine afin.t2 (x := .ifc _ _) (y := .bool _) rfl rfl ?_
        rw [hfe, hae]; exact congrArg (fun b => AV.tup [.ifc 148 (.agg [.str dst, .fro 1 ((evens w).map encS), .fro 1 ((odds w).map encS)]), .bool b]) (by unfold phiOk; simp_all <;> (intros; omega))
      · skip
        refine AAny.takeF (i := 12) rfl rfl rfl c2 (by kernel_rfl) (by kernel_rfl) (by kernel_rfl) (by kernel_rfl) (by kernel_rfl) (by kernel_rfl) ?_
        refine AAny.takeF (i := 13) rfl rfl rfl c2 (by kernel_rfl) (by kernel_rfl) (by kernel_rfl) (by kernel_rfl) (by kernel_rfl) (by kernel_rfl) ?_
        refine AAny.take (i := 14) rfl (by kernel_rfl) (by kernel_rfl) (by kernel_rfl) (by kernel_rfl) (by kernel_rfl) (by kernel_rfl) (Gv.pickF (v := .bool _) rfl c2 rfl) ?_
        refine AAny.take (i := 15) rfl (by kernel_rfl) (by kernel_rfl) (by kernel_rfl) (by kernel_rfl) (by kernel_rfl) (by kernel_rfl) (Gv.assign (v := .ifc _ _) rfl) ?_
        refine AAny.take (i := 16) rfl (by kernel_rfl) (by kernel_rfl) (by kernel_rfl) (by kernel_rfl) (by kernel_rfl) (by kernel_rfl) (Gv.assign (v := .bool _) rfl) ?_
        refine AAny.done (by kernel_rfl) ?_
        refine AWP.ret ?_
        repeat (first | refine aseqQ_ret ?_ | refine ablockQ_ret ?_)
        refine afin.t2 (x := .ifc _ _) (y := .bool _) rfl rfl ?_
        rw [hfe, hae]; exact congrArg (fun b => AV.tup [.ifc 148 (.agg [.str dst, .fro 1 ((evens w).map encS), .fro 1 ((odds w).map encS)]), .bool b]) (by unfold phiOk; simp_all <;> (intros; omega))
    · skip
      refine AAny.takeF (i := 6) rfl rfl rfl c1 (by kernel_rfl) (by kernel_rfl) (by kernel_rfl) (by kernel_rfl) (by kernel_rfl) (by kernel_rfl) ?_
      refine AAny.takeF (i := 7) rfl rfl rfl c1 (by kernel_rfl) (by kernel_rfl) (by kernel_rfl) (by kernel_rfl) (by kernel_rfl) (by kernel_rfl) ?_
      refine AAny.takeF (i := 8) rfl rfl rfl c1 (by kernel_rfl) (by kernel_rfl) (by kernel_rfl) (by kernel_rfl) (by kernel_rfl) (by kernel_rfl) ?_
      refine AAny.takeF (i := 9) rfl rfl rfl c1 (by kernel_rfl) (by kernel_rfl) (by kernel_rfl) (by kernel_rfl) (by kernel_rfl) (by kernel_rfl) ?_
      refine AAny.take (i := 10) rfl (by kernel_rfl) (by kernel_rfl) (by kernel_rfl) (by kernel_rfl) (by kernel_rfl) (by kernel_rfl) (Gv.pickF (v := .bool _) rfl c1 rfl) ?_
      refine AAny.take (i := 11) rfl (by kernel_rfl) (by kernel_rfl) (by kernel_rfl) (by kernel_rfl) (by kernel_rfl) (by kernel_rfl) (Gv.move (v := .bool _) rfl) ?_
      refine AAny.takeF (i := 12) rfl rfl rfl rfl (by kernel_rfl) (by kernel_rfl) (by kernel_rfl) (by kernel_rfl) (by kernel_rfl) (by kernel_rfl) ?_
      refine AAny.takeF (i := 13) rfl rfl rfl rfl (by kernel_rfl) (by kernel_rfl) (by kernel_rfl) (by kernel_rfl) (by kernel_rfl) (by kernel_rfl) ?_
      refine AAny.take (i := 14) rfl (by kernel_rfl) (by kernel_rfl) (by kernel_rfl) (by kernel_rfl) (by kernel_rfl) (by kernel_rfl) (Gv.pickF (v := .bool _) rfl rfl rfl) ?_
      refine AAny.take (i := 15) rfl (by kernel_rfl) (by kernel_rfl) (by kernel_rfl) (by kernel_rfl) (by kernel_rfl) (by kernel_rfl) (Gv.assign (v := .ifc _ _) rfl) ?_
      refine AAny.take (i := 16) rfl (by kernel_rfl) (by kernel_rfl) (by kernel_rfl) (by kernel_rfl) (by kernel_rfl) (by kernel_rfl) (Gv.assign (v := .bool _) rfl) ?_
      refine AAny.done (by kernel_rfl) ?_
      refine AWP.ret ?_
      repeat (first | refine aseqQ_ret ?_ | refine ablockQ_ret ?_)
      refine afin.t2 (x := .ifc _ _) (y := .bool _) rfl rfl ?_
      rw [hfe, hae]; exact congrArg (fun b => AV.tup [.ifc 148 (.agg [.str dst, .fro 1 ((evens w).map encS), .fro 1 ((odds w).map encS)]), .bool b]) (by unfold phiOk; simp_all <;> (intros; omega))
end Go.Proofs.YtdkhlgiohpdihaaGreatDoor
namespace Go.Proofs.YtdkhlgiohpdihaaGreatDoor
open Go Go.RowKit Go.Shelf Go.Proofs
attribute [local go_sem] Oper.semAt_some
def upto (k : Nat) : List Int := (List.range k).map fun j : Nat => (j : Int)
theorem upto_succ (k : Nat) : upto (k + 1) = upto k ++ [(k : Int)] := by simp [upto, List.range_succ]
theorem upto_length (k : Nat) : (upto k).length = k := by simp [upto]
theorem word_calls (op : Int) (W : World) : Calls Tryz.prog 57 #[.int .i64 op] W fun e w' => e = .returned (.string (kRow op).1) ∧ Below W.heap.size W w' :=
  (AFun.call (word_spec op) ⟨_, _, rfl, rfl, rfl⟩ rfl).mono (by rintro e w' ⟨v, rfl, rfl, h⟩; exact ⟨rfl, h⟩)
theorem keepsOthers_below {W w' : World} (hb : Below W.heap.size W w') : KeepsOthers W w' := ⟨hb.size, fun k o hk _ => (hb.block k (Array.getElem?_eq_some_iff.1 hk).1).trans hk⟩
set_option maxRecDepth 100000 in
set_option maxHeartbeats 2000000 in
theorem all1_in (F : Fence) (n : Nat) (h7 : F.fn 143) (hro : F.round = none) (hn : 1 ≤ n) (l n₀ : Nat) (J Jx : List Int → World → Prop)
    (hY : ∀ pre x W, J pre W → pre.length < 27 → YieldAt F (n - 1) Tryz.prog l #[.int .i64 x] W fun e W' =>
      (e = .returned (.bool true) ∧ J (pre ++ [x]) W' ∧ Below n₀ W W') ∨ (e = .returned (.bool false) ∧ Jx (pre ++ [x]) W'))
    (W : World) (h0 : J [] W) :
    CallsIn F n Tryz.prog 143 #[.func (.yield l) #[] #[]] W fun e W' => (∃ v, e = .returned v) ∧
      ((∃ ys, ys = upto 27 ∧ J ys W') ∨ (∃ pre, (∃ k, k ≤ 27 ∧ pre = upto k) ∧ Jx pre W')) := by
  refine callsIn_of_wp Tryz.func143 rfl h7 ?_ hro
  simp only [Tryz.ntmps143, List.size_toArray, List.length_cons, List.length_nil, Nat.reduceAdd, Nat.reduceSub, Array.replicate_succ, Array.replicate_zero, List.push_toArray, List.append_toArray, List.nil_append, List.cons_append]
  gi_wp2
  gi_loopw [2] (fun i wr => ∃ k : Nat, k ≤ 27 ∧ i = .int .i64 k ∧ J (upto k) wr)
    (fun i _ => 27 - (intOf i).toNat)
  case atStart => exact ⟨0, Nat.zero_le _, rfl, h0⟩
  case round =>
    obtain ⟨k, hk, rfl, hJs⟩ := hrel
    by_cases hlt : k < 27
    · obtain ⟨fn, tmps, assign, body, hy, hR⟩ := hY _ (k : Int) wr hJs (by rw [upto_length]; exact hlt)
      gi_wp2
      refine hR.mono ?_
      rintro e W3 (⟨rfl, hJ3, hk3⟩ | ⟨rfl, hJx3⟩)
      · gi_wp2
        go_roundw
        case rel => exact ⟨k + 1, by omega, by simp, by rw [upto_succ]; exact hJ3⟩
        case measure => simp [intOf]; omega
      · gi_wp2
        refine bodyPost_ret (results_none rfl _ _ _) rfl ?_
        exact ⟨⟨_, rfl⟩, .inr ⟨_, ⟨k + 1, by omega, (upto_succ _).symm⟩, hJx3⟩⟩
    · obtain rfl : k = 27 := by omega
      gi_wp2
      go_end0
      exact ⟨⟨_, rfl⟩, .inl ⟨_, rfl, hJs⟩⟩
theorem all_stops (F : Fence) (n : Nat) (h7 : F.fn 143) (hro : F.round = none) (hn : 1 ≤ n) (n₀ : Nat) (w : World) :
    SeqStopsK F n Tryz.prog 143 #[] (fun x : Int => #[Value.int .i64 x]) (Below n₀) (fun ys => ys = upto 27) (fun pre => ∃ k, k ≤ 27 ∧ pre = upto k) 27 w := fun l J Jx W _ _ _ hY h0 =>
  all1_in F n h7 hro hn l n₀ J Jx hY W h0
set_option maxHeartbeats 1000000 in
theorem all_in (F : Fence) (n : Nat) (h5 : F.fn 141) (hro : F.round = none) (w : World) :
    CallsIn F n Tryz.prog 141 #[] w fun e w' => e = .returned (.func (.func 143) #[] #[]) ∧ w' = w := by
  refine callsIn_of_wp Tryz.func141 rfl h5 ?_ hro
  simp only [Tryz.ntmps141, List.size_toArray, List.length_cons, List.length_nil, Nat.reduceAdd, Nat.reduceSub, Array.replicate_succ, Array.replicate_zero, List.push_toArray, List.append_toArray, List.nil_append, List.cons_append]
  gi_wp2
  go_ret
  exact ⟨rfl, rfl⟩
def isOpW (w : ByteArray) : Bool := kindT.any (fun r => decide (r.1 = w))
def opOf (w : ByteArray) : Int := if isOpW w then firstI (fun r => decide (r.1 = w)) kindT 0 else 0
theorem cell_new_q (W : World) (v : Value) (t : TypeId) : (W.alloc (.cells #[v] t)).cell? ⟨W.heap.size, 0, none⟩ = some v ∧ (W.alloc (.cells #[v] t)).frozen? ⟨W.heap.size, 0, none⟩ = false :=
  by have h := World.alloc_heap_new W (.cells #[v] t); exact ⟨by simp only [World.cell?, h]; simp, by simp only [World.frozen?, h]; simp⟩
theorem cell_alloc_q {W : World} {a : Addr} {v : Value} (o : Obj) (h : W.cell? a = some v) : (W.alloc o).cell? a = some v := cell_kept h (World.grownBy_alloc W o none) (fun r e => by cases e)
theorem frozen_alloc_q {W : World} {a : Addr} {v : Value} (o : Obj) (h : W.cell? a = some v) (hf : W.frozen? a = false) : (W.alloc o).frozen? a = false := (frozen_kept h (World.grownBy_alloc W o none) (fun r e => by cases e)).trans hf
theorem lt_of_cell {W : World} {p : Addr} {v : Value} (h : W.cell? p = some v) : p.block < W.heap.size := by
  by_cases hl : p.block < W.heap.size
  · exact hl
  · simp [World.cell?, Array.getElem?_eq_none (by omega : W.heap.size ≤ p.block)] at h
set_option maxRecDepth 100000 in
set_option maxHeartbeats 4000000 in
theorem ofW_in (word : ByteArray) (w : World) : Calls Tryz.prog 134 #[.string word] w fun e W' =>
    ((∃ k : Nat, k < 27 ∧ e = .returned (.tuple #[.int .i64 k, .bool true]) ∧ (kRow k).1 = word ∧ ∀ j : Nat, j < k → (kRow j).1 ≠ word) ∨ (e = .returned (.tuple #[.int .i64 0, .bool false]) ∧ ∀ j : Nat, j < 27 → (kRow j).1 ≠ word)) ∧ Below w.heap.size w W' := by
  refine (callsIn_wide (n := 3)).1 ?_
  have hro : Fence.wide.round = none := rfl
  refine callsIn_of_wp_marks Tryz.func134 rfl trivial ?_ hro
  simp only [Tryz.ntmps134, List.size_toArray, List.length_cons, List.length_nil, Nat.reduceAdd, Nat.reduceSub, Array.replicate_succ, Array.replicate_zero, List.push_toArray, List.append_toArray, List.nil_append, List.cons_append]
  gi_wp2_with (refine ⟨trivial, ?_⟩; gi_at_call 141; refine (all_in _ _ trivial rfl _).mono ?_; rintro e w' ⟨rfl, rfl⟩)
  have c0 := cell_new_q w (.string word) 9
  have c1 := cell_new_q (w.alloc (.cells #[.string word] 9)) (.int .i64 0) 65
  have c2 := cell_new_q ((w.alloc (.cells #[.string word] 9)).alloc (.cells #[.int .i64 0] 65)) (.bool false) 4
  simp only [World.size_alloc] at c1 c2
  have hB0 : Below w.heap.size w (((w.alloc (.cells #[.string word] 9)).alloc (.cells #[.int .i64 0] 65)).alloc (.cells #[.bool false] 4)) := (((Below.refl _ w).alloc (Nat.le_refl _) _).alloc (by simp) _).alloc (by simp; omega) _
  refine wpIn_rangeFunc_ownF hro (by omega) (gf := 143) (lb := #[]) rfl trivial (enters_of Tryz.func143 (by kernel_rfl) rfl)
    (all_stops Fence.wide _ trivial hro (by omega) w.heap.size _) belowK_t (belowK_b (by simp; omega)) (Below.refl _ _) (fun _ => rfl)
    (fun pre W => ((∀ y ∈ pre, (kRow y).1 ≠ word) ∧ W.cell? ⟨w.heap.size, 0, none⟩ = some (.string word) ∧ (W.cell? ⟨w.heap.size + 1, 0, none⟩ = some (.int .i64 0) ∧ W.frozen? ⟨w.heap.size + 1, 0, none⟩ = false) ∧ W.cell? ⟨w.heap.size + 1 + 1, 0, none⟩ = some (.bool false) ∧ W.frozen? ⟨w.heap.size + 1 + 1, 0, none⟩ = false) ∧ Below w.heap.size w W)
    (fun c pre W => (c = .ret ∧ (∃ x p, pre = p ++ [x] ∧ (∀ y ∈ p, (kRow y).1 ≠ word) ∧ (kRow x).1 = word ∧ W.cell? ⟨w.heap.size + 1, 0, none⟩ = some (.int .i64 x)) ∧ W.cell? ⟨w.heap.size + 1 + 1, 0, none⟩ = some (.bool true)) ∧ Below w.heap.size w W)
    ?hI ?hIx ?h0
    (fun x => { tmps := #[.string word, .pointer (some ⟨w.heap.size, 0, none⟩), .pointer (some ⟨w.heap.size + 1, 0, none⟩), .pointer (some ⟨w.heap.size + 1 + 1, 0, none⟩), .int .i64 x, .func (.func 143) #[] #[], .int .i64 x, undef, undef, undef, undef, undef], defers := [] }) ?assign ?body ?done ?stop
  case hI => exact OwnFrom.and (Own.from (fun s A B row hs hg hr => ⟨hs.1, cell_kept hs.2.1 hg hr, ⟨cell_kept hs.2.2.1.1 hg hr, (frozen_kept hs.2.2.1.1 hg hr).trans hs.2.2.1.2⟩, cell_kept hs.2.2.2.1 hg hr, (frozen_kept hs.2.2.2.1 hg hr).trans hs.2.2.2.2⟩) _) (ownFrom_below (Nat.le_refl _) (by simp; omega))
  case hIx => exact fun c => OwnFrom.and (Own.from (fun s A B row hs hg hr => ⟨hs.1, (let ⟨x, p, e, h1, h2, h3⟩ := hs.2.1; ⟨x, p, e, h1, h2, cell_kept h3 hg hr⟩), cell_kept hs.2.2 hg hr⟩) _) (ownFrom_below (Nat.le_refl _) (by simp; omega))
  case h0 => exact ⟨⟨by simp, cell_alloc_q _ (cell_alloc_q _ c0.1), ⟨cell_alloc_q _ c1.1, frozen_alloc_q _ c1.1 c1.2⟩, c2.1, c2.2⟩, hB0⟩
  case assign =>
    intro l x W K hK
    gi_wp2
    exact hK
  case body =>
    rintro l pre x W ⟨⟨hp, hcw, ⟨hc2, hf2⟩, hc3, hf3⟩, hB⟩ _
    have hlt := lt_of_cell hc3
    simp only at hlt
    have hmx : Tryz.prog.follows .mixedOrders = true := by kernel_rfl
    gi_wp2
    gi_region_with_o (refine ⟨trivial, ?_⟩; gi_at_call 57; refine (CallsIn.inRound l (callsIn_wide.2 (word_calls x _))).mono ?_; rintro e w' ⟨rfl, hb⟩; have hcw' := (hb.cell (p := ⟨w.heap.size, 0, none⟩) (by simp; omega)).trans hcw; have hc2' := (hb.cell (p := ⟨w.heap.size + 1, 0, none⟩) (by simp; omega)).trans hc2; have hc3' := (hb.cell (p := ⟨w.heap.size + 1 + 1, 0, none⟩) (by simp; omega)).trans hc3; have hf2' := (hb.frozen (p := ⟨w.heap.size + 1, 0, none⟩) (by simp; omega)).trans hf2; have hf3' := (hb.frozen (p := ⟨w.heap.size + 1 + 1, 0, none⟩) (by simp; omega)).trans hf3)
    all_goals gi_wp2
    all_goals (try go_bits)
    all_goals rename_i hx
    all_goals rw [bytes_eq] at hx
    all_goals have hB1 : Below w.heap.size W.drew w' := hb.mono hB.size
    all_goals have hB2 : Below w.heap.size W w' := ⟨hB1.os, hB1.tape, hB1.output, hB1.size, hB1.block⟩
    all_goals have hk2 : KeepsOthers W w' := (KeepsOthers.drew W).trans (keepsOthers_below hb)
    all_goals first
      | exact ⟨hk2, hB2, ⟨fun y hy => (List.mem_append.1 hy).elim (hp y) (fun e e' => by simp at e; subst e; exact of_decide_eq_false hx e'), hcw', ⟨hc2', hf2'⟩, hc3', hf3'⟩, hB.trans hB2⟩
      | exact ⟨(hk2.trans (KeepsOthers.setCell _ _ _)).trans (KeepsOthers.setCell _ _ _), ⟨rfl, ⟨x, pre, rfl, hp, of_decide_eq_true hx, (World.cell?_setCell_other _ _ _ _ (by simp)).trans (World.cell?_setCell_same' _ _ _ (by rw [hc2']; rfl))⟩, World.cell?_setCell_same' _ _ _ (by rw [World.cell?_setCell_other _ _ _ _ (by simp), hc3']; rfl)⟩, ((hB.trans hB2).setCell (p := ⟨w.heap.size + 1, 0, none⟩) (by simp) _).setCell (p := ⟨w.heap.size + 1 + 1, 0, none⟩) (by simp; omega) _⟩
  case done =>
    rintro D xs W hD rfl ⟨⟨hne, _, ⟨hc2, hf2⟩, hc3, hf3⟩, hB⟩ hK
    have hD2 : w.heap.size ≤ D := by simp at hD; omega
    have hb2 := lt_of_cell hc2
    have hb3 := lt_of_cell hc3
    simp only at hb2 hb3
    gi_wp2
    have hK' := ((KeepsOthers.setCell W ⟨w.heap.size + 1, 0, none⟩ (.int .i64 0)).trans (KeepsOthers.setCell _ ⟨w.heap.size + 1 + 1, 0, none⟩ (.bool false))).same D _ hK rfl
    refine ⟨by simp, .inl ⟨_, _, rfl, run_takeDeferred hK', ?_⟩⟩
    have hca := cell_kept ((World.cell?_setCell_other (W.setCell ⟨w.heap.size + 1, 0, none⟩ (.int .i64 0)) ⟨w.heap.size + 1 + 1, 0, none⟩ ⟨w.heap.size + 1, 0, none⟩ (.bool false) (by simp)).trans (World.cell?_setCell_same' W ⟨w.heap.size + 1, 0, none⟩ (.int .i64 0) (by rw [hc2]; rfl))) (grownBy_putObj' _ D (.deferred none)) (fun r e => by cases e; exact ⟨_, hK', rfl⟩)
    have hcb := cell_kept (World.cell?_setCell_same' (W.setCell ⟨w.heap.size + 1, 0, none⟩ (.int .i64 0)) ⟨w.heap.size + 1 + 1, 0, none⟩ (.bool false) (by rw [World.cell?_setCell_other _ _ _ _ (by simp), hc3]; rfl)) (grownBy_putObj' _ D (.deferred none)) (fun r e => by cases e; exact ⟨_, hK', rfl⟩)
    refine ⟨.tuple #[.int .i64 0, .bool false], ?_, .inr ⟨rfl, fun j hj => hne j (List.mem_map.2 ⟨j, List.mem_range.2 hj, rfl⟩)⟩, ((hB.setCell (p := ⟨w.heap.size + 1, 0, none⟩) (by simp) _).setCell (p := ⟨w.heap.size + 1 + 1, 0, none⟩) (by simp; omega) _).trans (belowK_b (w := w) (Nat.le_refl _) _ D _ _ hD2 hK' rfl rfl)⟩
    simp [results, Tryz.f134, go_sem, hca, hcb]
  case stop =>
    rintro D c pre W hD ⟨k, hk, rfl⟩ ⟨⟨rfl, ⟨x, p, hpx, hp, hx, hc2⟩, hc3⟩, hB⟩ hK
    have hD2 : w.heap.size ≤ D := by simp at hD; omega
    gi_wp2
    refine ⟨by simp, .inl ⟨_, _, rfl, run_takeDeferred hK, ?_⟩⟩
    have hca := cell_kept hc2 (grownBy_putObj' _ D (.deferred none)) (fun r e => by cases e; exact ⟨_, hK, rfl⟩)
    have hcb := cell_kept hc3 (grownBy_putObj' _ D (.deferred none)) (fun r e => by cases e; exact ⟨_, hK, rfl⟩)
    have hk0 : k ≠ 0 := fun e => by subst e; simp [upto] at hpx
    obtain ⟨j, rfl⟩ : ∃ j, k = j + 1 := ⟨k - 1, by omega⟩
    rw [upto_succ] at hpx
    obtain ⟨e1, e2⟩ := List.append_inj' hpx rfl
    simp only [List.cons.injEq, and_true] at e2
    subst e1 e2
    refine ⟨.tuple #[.int .i64 j, .bool true], ?_, .inl ⟨j, by omega, rfl, hx, fun i hi => hp i (List.mem_map.2 ⟨i, List.mem_range.2 hi, rfl⟩)⟩, hB.trans (belowK_b (w := w) (Nat.le_refl _) W D _ _ hD2 hK rfl rfl)⟩
    simp [results, Tryz.f134, go_sem, hca, hcb]
theorem AFun.ofBelowA {E : World} {P : Program} {f : FuncId} {fn : Func} {c : Code} {us1 : List AV} {vs : List Value} {r : AV} (hf : P.funcs[f]? = some fn) (hb : fn.body = some c) (hn : fn.name ≠ "runtime.NumGoroutine") (has : us1 = vs.map lit)
    (h : ∀ w, Below E.heap.size E w → Calls P f vs.toArray w fun e w' => (∃ v, e = .returned v ∧ ∀ I, RepV I r v) ∧ Below w.heap.size w w') : AFun P E f us1 r := fun I F w us h1 h2 => by
  subst has
  rw [lit_uns h1]
  obtain ⟨ht, L, hL, hS⟩ := h2
  have hL : L = [] := hL
  subst hL
  refine Fn.ofCalls hf hb hn ?_
  exact (h w hS.belowE).mono fun e w' ⟨⟨v, he, hv⟩, hw⟩ => ⟨v, he, I, r, [], .refl _, hv I, ⟨ht, [], rfl, hS.below hw⟩, rfl⟩
theorem firstI_at {α : Type} (p : α → Bool) : ∀ (xs : List α) (b k : Nat) (h : k < xs.length), p xs[k] = true → (∀ j (hj : j < k), p (xs[j]'(by omega)) = false) → firstI p xs b = ((b + k : Nat) : Int)
  | x :: xs, b, 0, _, h, _ => by rw [firstI, if_pos (by simpa using h)]; rfl
  | x :: xs, b, k + 1, hk, h, hj => by
    rw [firstI, if_neg (by simpa using hj 0 (by omega)), firstI_at p xs (b + 1) k (by simpa using hk) (by simpa using h) (fun j hj2 => by simpa using hj (j + 1) (by omega))]
    congr 1; omega
theorem kRow_nat {k : Nat} (h : k < kindT.length) : kRow (k : Int) = kindT[k] := by
  unfold kRow; rw [if_pos (by omega), Int.toNat_natCast, List.getElem?_eq_getElem h]; rfl
theorem ofW_spec {E : World} (word : ByteArray) : AFun Tryz.prog E 134 [.str word] (.tup [.int .i64 (opOf word), .bool (isOpW word)]) :=
  AFun.ofBelowA (vs := [.string word]) Tryz.func134 rfl (by decide) rfl fun w _ => (ofW_in word w).mono (by
    rintro e w' ⟨h, hb⟩
    refine ⟨?_, hb⟩
    rcases h with ⟨k, hk, rfl, h1, h2⟩ | ⟨rfl, h2⟩
    · have hk2 : k < kindT.length := hk
      have hr1 : kindT[k].1 = word := by rw [← kRow_nat hk2]; exact h1
      have hany : isOpW word = true := List.any_eq_true.2 ⟨kindT[k], List.getElem_mem hk2, decide_eq_true hr1⟩
      have hop : opOf word = (k : Int) := by
        unfold opOf
        rw [if_pos hany, firstI_at _ _ 0 k hk2 (decide_eq_true hr1) (fun j hj => decide_eq_false (by rw [← kRow_nat]; exact h2 j hj)), Nat.zero_add]
      rw [hop, hany]
      exact ⟨_, rfl, fun I => ⟨_, rfl, ⟨_, _, rfl, rfl, ⟨_, _, rfl, rfl, rfl⟩⟩⟩⟩
    · have hany : isOpW word = false := List.any_eq_false.2 fun r hr => by
        obtain ⟨j, hj, rfl⟩ := List.getElem_of_mem hr
        have := h2 j hj
        rw [kRow_nat hj] at this
        simpa using this
      have hop : opOf word = 0 := by unfold opOf; rw [hany]; rfl
      rw [hop, hany]
      exact ⟨_, rfl, fun I => ⟨_, rfl, ⟨_, _, rfl, rfl, ⟨_, _, rfl, rfl, rfl⟩⟩⟩⟩)
end Go.Proofs.YtdkhlgiohpdihaaGreatDoor
namespace Go.Proofs.YtdkhlgiohpdihaaGreatDoor
section
variable {E : World} {P : Program} {ops : Array Oper} {K : AEnv → OL → Prop} {env : AEnv} {O O' O'' : OL} {rest : List Oper} {n : Nat}
variable {d ty : Nat} {pos : String} {af : Array Edge} {x y z : Operand} {t u e : TypeId}
theorem drop_last {A row : List AV} {j : Nat} {c : AV} (h : row[j]? = some c) : (A ++ row).drop (A.length + j) = c :: row.drop (j + 1) := by
  obtain ⟨hj, rfl⟩ := List.getElem?_eq_some_iff.1 h
  rw [List.drop_append, List.drop_eq_nil_of_le (by omega), Nat.add_sub_cancel_left, List.nil_append]
  exact List.drop_eq_getElem_cons hj
theorem set_last {A row : List AV} {j : Nat} {c : AV} : (A ++ row).set (A.length + j) c = A ++ row.set j c := by
  rw [List.set_append_right _ _ (by omega), Nat.add_sub_cancel_left]
theorem get_last {A row : List AV} {j : Nat} : (A ++ row)[A.length + j]? = row[j]? := by
  rw [List.getElem?_append_right (by omega), Nat.add_sub_cancel_left]
theorem Gv.loadL {i off j k : Nat} {T : TypeId} {c : AV} {A row : List AV} (ha : ∀ w, (isAgg t).run P w = .ok false w) (hx : aev env x = .po i off) (hoff : off = A.length + j) (hO : Has O i (.grow k T (A ++ row))) (hv : row[j]? = some c) :
    Gv P env O (Oper.mk (some d) (.load t x) ty pos af none) c := Gv.load1G ha hx hO (by subst hoff; exact drop_last hv)
theorem AOps.storeL {i off j m k : Nat} {T : TypeId} {v : AV} {A row l new : List AV} (hs : ∀ w, (sizeOf t).run P w = .ok m w) (hx : aev env x = .po i off) (hoff : off = A.length + j) (hy : aev env y = v) (hv : v.sto = true) (hl : v.cs = l) (hl1 : l.all AV.cell = true) (hn : l.length = m)
    (hO : Put O i (.grow k T (A ++ row)) (.grow k T (A ++ new)) O') (hb : Nat.ble (j + m) row.length = true) (hm : Nat.ble 1 m = true) (hnew : row.take j ++ l ++ row.drop (j + m) = new) (kk : AOps P E ops K rest env O') : AOps P E ops K (Oper.mk none (.store t x y) ty pos af none :: rest) env O :=
  AOps.storeG hs hx hy hv hl hl1 hn hO (by have := Nat.le_of_ble_eq_true hb; rw [List.length_append]; omega) (Nat.le_of_ble_eq_true hm) (by
    have := Nat.le_of_ble_eq_true hb
    subst hoff hnew
    rw [List.take_append, List.take_of_length_le (by omega : A.length ≤ A.length + j), Nat.add_sub_cancel_left, List.drop_append, List.drop_eq_nil_of_le (by omega : A.length ≤ A.length + j + m), Nat.add_assoc, Nat.add_sub_cancel_left]
    simp) kk
theorem Gv.idxOL {i n k j r : Nat} {a : Int} {T : TypeId} {cs : List AV} (ht : P.underlying t = some (.slice e)) (hs : ∀ w, (sizeOf e).run P w = .ok k w) (hx : aev env x = .own i n) (hy : aev env y = .int .i64 a) (hi : a = (j : Int)) (hO : Has O i (.grow k T cs)) (hne : cs ≠ []) (hj : j < n) (hr : j * k = r) :
    Gv P env O (Oper.mk (some d) (.indexAddr t x y) ty pos af none) (.po i r) := hr ▸ Gv.idxO ht hs hx hy hi hO hne hj
theorem know2 {I : G} {F : List (Nat × Obj)} {E w : World} {i k m : Nat} {T : TypeId} {rows : List (List AV)} (hO : Pick O i (.grow k T rows.flatten) O') (hk : ∀ r ∈ rows, r.length = k) (hk0 : 0 < k) (hm : rows.length = m) (h : SLA I O F E w) :
    ∃ J B, I.le J ∧ RepOs I O' B ∧ (∃ top, ∀ i, top ≤ i → J.h i = none) ∧ SL J.k (B ++ F) E w ∧ ∀ v, RepV I (.own i m) v → RepV J (.fro k rows) v := by
  obtain ⟨ht, L, hL, hS⟩ := h
  obtain ⟨A, B, hp, ⟨b, c, n, vs, e1, hvs, hvc, hown⟩, hB⟩ := hO.rep hL
  simp only at e1
  have hS2 : SL I.k (A ++ (B ++ F)) E w := hS.perm (by rw [← List.append_assoc]; exact (hp.append_right F).symm)
  have hflat : rows.flatten.length = rows.length * k := flat_len hk
  have hnm : n = m := by
    have h5 := hown.1
    have h6 := hvs.length
    have : n * k = m * k := by rw [← hm]; omega
    exact Nat.eq_of_mul_eq_mul_right hk0 this
  subst hnm
  obtain ⟨h5, h6, h7⟩ := hown
  rcases h7 with ⟨ea, rfl, rfl⟩ | ⟨b', junk, ea, rfl, hj⟩
  · refine ⟨I, B, .refl _, hB, ht, by simpa using hS2, ?_⟩
    rintro v ⟨b2, c2, e2, rfl⟩
    rw [e1] at e2
    simp only [Option.some.injEq, Prod.mk.injEq] at e2
    obtain ⟨rfl, rfl⟩ := e2
    have h0 : rows = [] := List.eq_nil_of_length_eq_zero (by omega)
    subst h0
    exact ⟨adr b, n, 0, rfl, hm.symm, h6, fun _ => rfl, trivial⟩
  · cases b with
    | none => simp [adr] at ea
    | some b =>
      simp [adr] at ea
      subst ea
      obtain ⟨hl, hS3⟩ := SL.freeze (by simpa using hS2 : SL I.k ((b, .cells (vs ++ junk).toArray T (0, 0)) :: (B ++ F)) E w)
      let J : G := ⟨I.k.put b (.cells (vs ++ junk).toArray T (0, 0)), I.h⟩
      have hle : I.le J := ⟨hl, fun _ _ h => h⟩
      have hb : J.k b = some (.cells (vs ++ junk).toArray T (0, 0)) := Ghost.put_same _ _ _
      refine ⟨J, B, hle, hB, ht, hS3, ?_⟩
      rintro v ⟨b2, c2, e2, rfl⟩
      rw [e1] at e2
      simp only [Option.some.injEq, Prod.mk.injEq] at e2
      obtain ⟨rfl, rfl⟩ := e2
      refine ⟨adr (some b), n, c, rfl, hm.symm, h6, fun h => by simp [adr] at h, RepR.of_flat hb rows vs 0 hk (RepL.mono hle _ _ hvs) fun i u hu => ?_⟩
      rw [Nat.zero_mul, Nat.zero_add, List.getElem?_toArray, List.getElem?_append_left (List.getElem?_eq_some_iff.1 hu).1]
      exact hu
theorem Put.sameL {I J : G} {j off k : Nat} {T : TypeId} {A row : List AV} {x y : AV} (hle : I.le J) (hp : Put O j (.grow k T (A ++ row)) (.grow k T (A ++ row.set off y)) O') (hc : row[off]? = some x) (hxy : ∀ v, RepV I x v → RepV J y v)
    {L : List (Nat × Obj)} (hL : RepOs I O L) : ∃ L', RepOs J O' L' ∧ L.Perm L' := by
  obtain ⟨A1, B, hp1, ⟨b, c, n, vs, e1, hvs, hvc, hown⟩, hback⟩ := hp.rep hL
  obtain ⟨L', h1, h2⟩ := hback hle (A' := A1) ⟨b, c, n, vs, hle.h _ _ e1, by
    have := hvs.same hle (off := A.length + off) (x := x) (y := y) (by rw [get_last]; exact hc) hxy
    rwa [set_last] at this, hvc, hown⟩
  exact ⟨L', h1, hp1.trans h2.symm⟩
theorem GStep.knowL {j off i k k' m : Nat} {T T' : TypeId} {A row : List AV} {rows : List (List AV)} (hO : Pick O i (.grow k T rows.flatten) O') (hP : Put O' j (.grow k' T' (A ++ row)) (.grow k' T' (A ++ row.set off (.fro k rows))) O'') (hc : row[off]? = some (.own i m))
    (hk : ∀ r ∈ rows, r.length = k) (hk0 : 0 < k) (hm : rows.length = m) : GStep E env O env O'' := fun I F ρ w h1 h2 => by
  obtain ⟨J, B, hle, hB, ht, hS, h4⟩ := know2 hO hk hk0 hm h2
  obtain ⟨L', h5, h6⟩ := Put.sameL hle hP hc h4 hB
  exact ⟨J, hle, h1.mono hle, ht, L', h5, hS.perm (h6.symm.append_right F).symm.symm⟩
theorem GStep.impL {j off k : Nat} {T : TypeId} {A row : List AV} {x y : AV} (hP : Put O j (.grow k T (A ++ row)) (.grow k T (A ++ row.set off y)) O') (hc : row[off]? = some x) (hxy : ∀ I v, RepV I x v → RepV I y v) : GStep E env O env O' := fun I F ρ w h1 h2 => by
  obtain ⟨ht, L, hL, hS⟩ := h2
  obtain ⟨L', h5, h6⟩ := Put.sameL (.refl I) hP hc (hxy I) hL
  exact ⟨I, .refl _, h1, ht, L', h5, hS.perm (h6.symm.append_right F)⟩
theorem GStep.impC {j off : Nat} {T : TypeId} {cs : List AV} {x y : AV} (hP : Put O j (.cells T cs) (.cells T (cs.set off y)) O') (hc : cs[off]? = some x) (hxy : ∀ I v, RepV I x v → RepV I y v) : GStep E env O env O' := fun I F ρ w h1 h2 => by
  obtain ⟨ht, L, hL, hS⟩ := h2
  obtain ⟨L', h5, h6⟩ := Put.same (F := F) (E := E) (w := w) (.refl I) (.inr trivial) hP hc (hxy I) hL
  exact ⟨I, .refl _, h1, ht, L', h5, hS.perm (h6.symm.append_right F)⟩
theorem nil_fro (k : Nat) (I : G) (v : Value) (h : RepV I (.raw (.slice none 0 0)) v) : RepV I (.fro k []) v := ⟨none, 0, 0, h, rfl, Nat.le_refl _, fun _ => rfl, trivial⟩
theorem adoptL_wp {j off k k' : Nat} {T T' : TypeId} {A row : List AV} {c : Code} {Q : Exit → AEnv → OL → Prop} {f : Nat → OL} (hP : ∀ i, Put O j (.grow k' T' (A ++ row)) (.grow k' T' (A ++ row.set off (.own i 0))) (f i)) (hc : row[off]? = some (.raw (.slice none 0 0)))
    (h : ∀ i, AWP P E n c Q env ((i, .grow k T []) :: f i)) : AWP P E n c Q env O := fun I F ρ w h1 h2 => by
  obtain ⟨i, hi⟩ := h2.name
  obtain ⟨J, e1, hle, e2, htop⟩ := hi (none, 0)
  obtain ⟨_, L, hL, hS⟩ := h2
  obtain ⟨L', h3, h4⟩ := Put.sameL hle (hP i) hc (fun v hv => ⟨none, 0, e2, hv⟩) hL
  exact (h i J F ρ w (h1.mono hle) ⟨htop, _, ⟨[], L', rfl, ⟨none, 0, 0, [], e2, rfl, by simp, OwnS.nil k T⟩, h3⟩, by rw [e1]; exact hS.perm (h4.symm.append_right F)⟩).mono fun _ _ _ => postE.up hle
theorem GStep.eq (h : O = O') : GStep E env O env O' := fun I F ρ w h1 h2 => ⟨I, .refl _, h1, h ▸ h2⟩
theorem fresh_wp {k : Nat} {T : TypeId} {c : Code} {Q : Exit → AEnv → OL → Prop} (h : ∀ i, AWP P E n c Q env ((i, .grow k T []) :: O)) : AWP P E n c Q env O := fun I F ρ w h1 h2 => by
  obtain ⟨i, hi⟩ := h2.name
  obtain ⟨J, e1, hle, e2, htop⟩ := hi (none, 0)
  obtain ⟨_, L, hL, hS⟩ := h2
  exact (h i J F ρ w (h1.mono hle) ⟨htop, _, ⟨[], L, rfl, ⟨none, 0, 0, [], e2, rfl, by simp, OwnS.nil k T⟩, hL.mono hle⟩, by rw [e1]; exact hS⟩).mono fun _ _ _ => postE.up hle
end
section
variable {P : Program} {E : World} {l : List Oper} {W : Nat → Bool} {fuel : Nat} {listed : Array Bool} {d ty : Nat} {op : Op} {pos : String} {af : Array Edge}
theorem AnyV.takeU {S0 S : World → Prop} {Q : Env → World → Prop} {ρ : Env} {w : World} {i j s : Nat} {b : Bool} (hi : l[i]? = some (Oper.mk (some d) op ty pos af (some (j, b)))) (hg : (l[j]?).bind (fun o : Oper => o.dst) = some s) (hv : ρ s = undef) (hs : Region.noSelect l.toArray = true) (hf : Region.free .any l.toArray listed i = true)
    (hr : (Region.ready .any l.toArray listed).contains i = true) (hW : waitsB l i W = true) (hWi : W i = false) (hcl : cleanB W listed = true) (hS0 : S0 w) (hS : S w)
    (h : AnyV P l.toArray S0 S W Q fuel (listed.setIfInBounds i true) (upd ρ d undef) w) : AnyV P l.toArray S0 S W Q (fuel + 1) listed ρ w :=
  AnyV.first (oi := Oper.mk (some d) op ty pos af (some (j, b))) (by simpa using hi) (Region.noSelect_spec hs) (Sx := S) (C := fun listed => ¬ dirty W listed) hWi (waits_clean hW) (fun _ _ h1 _ h2 => h2.resolve_left h1) fuel listed ρ w (Region.free_spec (by simpa using hi) hf) (by simpa using hr)
    (.inr ⟨by simp only [wantedE, List.getElem?_toArray, hg, hv]; simp [undef], rfl⟩) (cleanB_spec hcl) hS0 (.inr hS) h
theorem AAny.takeU {Q : AEnv → OL → Prop} {env : AEnv} {Os Om : OL} {i j s : Nat} {b : Bool} (hi : l[i]? = some (Oper.mk (some d) op ty pos af (some (j, b)))) (hg0 : (l[j]?).bind (fun o : Oper => o.dst) = some s) (hv0 : env s = .raw undef) (hs : Region.noSelect l.toArray = true) (hf : Region.free .any l.toArray listed i = true)
    (hr : (Region.ready .any l.toArray listed).contains i = true) (hW : waitsB l i W = true) (hWi : W i = false) (hcl : cleanB W listed = true)
    (h : AAny P E l W Q fuel (listed.setIfInBounds i true) (aupd env d (.raw undef)) Os Om) : AAny P E l W Q (fuel + 1) listed env Os Om := fun I F ρ w Ls h1 hLs h2 =>
  AnyV.takeU hi hg0 (by have := h1 s; rw [hv0] at this; exact this) hs hf hr hW hWi hcl h2.here.less h2.here (h I F _ w Ls (h1.upd d rfl) hLs h2)
theorem AnyV.takeKT {S0 S : World → Prop} {Q : Env → World → Prop} {ρ : Env} {w : World} {i j s : Nat} {b t : Bool} {v : Value} (hi : l[i]? = some (Oper.mk (some d) op ty pos af (some (j, b)))) (hg : (l[j]?).bind (fun o : Oper => o.dst) = some s) (hv : ρ s = .bool t) (ht : t = b) (hs : Region.noSelect l.toArray = true) (hf : Region.free .any l.toArray listed i = true)
    (hr : (Region.ready .any l.toArray listed).contains i = true) (hWi : W i = false) (hS0 : S0 w) (hS : dirty W listed ∨ S w) (hy : ∀ w, S0 w → (execOp (ev ρ) (Oper.mk (some d) op ty pos af none)).run P w = .ok (.value v) w)
    (h : AnyV P l.toArray S0 S W Q fuel (listed.setIfInBounds i true) (upd ρ d v) w) : AnyV P l.toArray S0 S W Q (fuel + 1) listed ρ w :=
  AnyV.first (oi := Oper.mk (some d) op ty pos af (some (j, b))) (by simpa using hi) (Region.noSelect_spec hs) (Sx := S0) (C := fun _ => True) hWi (fun _ _ _ _ _ _ _ => trivial) (fun _ _ _ h _ => h) fuel listed ρ w (Region.free_spec (by simpa using hi) hf) (by simpa using hr)
    (.inl ⟨by simp only [wantedE, List.getElem?_toArray, hg, hv, ht]; simp, hy⟩) trivial hS0 hS h
theorem AnyV.takeKF {S0 S : World → Prop} {Q : Env → World → Prop} {ρ : Env} {w : World} {i j s : Nat} {b t : Bool} (hi : l[i]? = some (Oper.mk (some d) op ty pos af (some (j, b)))) (hg : (l[j]?).bind (fun o : Oper => o.dst) = some s) (hv : ρ s = .bool t) (ht : t = !b) (hs : Region.noSelect l.toArray = true) (hf : Region.free .any l.toArray listed i = true)
    (hr : (Region.ready .any l.toArray listed).contains i = true) (hWi : W i = false) (hS0 : S0 w) (hS : dirty W listed ∨ S w)
    (h : AnyV P l.toArray S0 S W Q fuel (listed.setIfInBounds i true) (upd ρ d undef) w) : AnyV P l.toArray S0 S W Q (fuel + 1) listed ρ w :=
  AnyV.first (oi := Oper.mk (some d) op ty pos af (some (j, b))) (by simpa using hi) (Region.noSelect_spec hs) (Sx := S0) (C := fun _ => True) hWi (fun _ _ _ _ _ _ _ => trivial) (fun _ _ _ h _ => h) fuel listed ρ w (Region.free_spec (by simpa using hi) hf) (by simpa using hr)
    (.inr ⟨by simp only [wantedE, List.getElem?_toArray, hg, hv, ht]; cases b <;> simp, rfl⟩) trivial hS0 hS h
theorem AAny.takeKT {Q : AEnv → OL → Prop} {env : AEnv} {Os Om : OL} {i j s : Nat} {b t : Bool} {x : AV} (hi : l[i]? = some (Oper.mk (some d) op ty pos af (some (j, b)))) (hg0 : (l[j]?).bind (fun o : Oper => o.dst) = some s) (hv0 : env s = .bool t) (ht : t = b) (hs : Region.noSelect l.toArray = true) (hf : Region.free .any l.toArray listed i = true)
    (hr : (Region.ready .any l.toArray listed).contains i = true) (hWi : W i = false) (hg : Gv P env [] (Oper.mk (some d) op ty pos af none) x)
    (h : AAny P E l W Q fuel (listed.setIfInBounds i true) (aupd env d x) Os Om) : AAny P E l W Q (fuel + 1) listed env Os Om := fun I F ρ w Ls h1 hLs h2 => by
  obtain ⟨v, hv, hrun⟩ := hg I [] E ρ h1 rfl
  exact AnyV.takeKT hi hg0 (by have := h1 s; rw [hv0] at this; exact this) ht hs hf hr hWi h2.here.less (.inr h2.here) (fun w ⟨J, L', a, b, c⟩ => hrun w J L' a b c) (h I F _ w Ls (h1.upd d hv) hLs h2)
theorem AAny.takeKF {Q : AEnv → OL → Prop} {env : AEnv} {Os Om : OL} {i j s : Nat} {b t : Bool} (hi : l[i]? = some (Oper.mk (some d) op ty pos af (some (j, b)))) (hg0 : (l[j]?).bind (fun o : Oper => o.dst) = some s) (hv0 : env s = .bool t) (ht : t = !b) (hs : Region.noSelect l.toArray = true) (hf : Region.free .any l.toArray listed i = true)
    (hr : (Region.ready .any l.toArray listed).contains i = true) (hWi : W i = false)
    (h : AAny P E l W Q fuel (listed.setIfInBounds i true) (aupd env d (.raw undef)) Os Om) : AAny P E l W Q (fuel + 1) listed env Os Om := fun I F ρ w Ls h1 hLs h2 =>
  AnyV.takeKF hi hg0 (by have := h1 s; rw [hv0] at this; exact this) ht hs hf hr hWi h2.here.less (.inr h2.here) (h I F _ w Ls (h1.upd d rfl) hLs h2)
end
theorem GStep.knowP {E : World} {env : AEnv} {O O' : OL} {t i : Nat} {T : TypeId} {cs : List AV} (hv : env t = .po i 0) (hO : Pick O i (.cells T cs) O') : GStep E env O (aupd env t (.pf cs)) O' := fun I F ρ w h1 ⟨ht, L, hL, hS⟩ => by
  obtain ⟨A, B, hp, ⟨b, c, vs, e1, hvs, hvc, rfl⟩, hB⟩ := hO.rep hL
  simp only at e1
  have hS2 : SL I.k ((b, .cells vs.toArray T (0, 0)) :: (B ++ F)) E w := hS.perm ((hp.append_right F).symm)
  obtain ⟨hl, hS3⟩ := SL.freeze hS2
  let J : G := ⟨I.k.put b (.cells vs.toArray T (0, 0)), I.h⟩
  have hle : I.le J := ⟨hl, fun _ _ h => h⟩
  refine ⟨J, hle, fun s => ?_, ht, B, hB.mono hle, hS3⟩
  unfold aupd
  cases hb : Nat.beq s t with
  | false => exact RepV.mono hle _ _ (h1 s)
  | true =>
    have : s = t := Nat.eq_of_beq_eq_true hb
    subst this
    have h2 := h1 s
    rw [hv] at h2
    obtain ⟨b2, c2, e2, e3⟩ := h2
    rw [e1] at e2
    simp only [Option.some.injEq, Prod.mk.injEq] at e2
    obtain ⟨rfl, rfl⟩ := e2
    exact ⟨b, 0, vs, e3, RepL.mono hle _ _ hvs, fun j u hj => ⟨_, _, _, Ghost.put_same _ _ _, by rw [Nat.zero_add, List.getElem?_toArray]; exact hj⟩⟩
end Go.Proofs.YtdkhlgiohpdihaaGreatDoor
namespace Go.Proofs.YtdkhlgiohpdihaaGreatDoor
open Go.Proofs Go.Lib Go.Shelf Go.RowKit
theorem pl152 : Places Tryz.prog 152 #[(0, 1), (1, 1), (2, 1), (3, 1)] [.int .i64 0, .str ⟨#[]⟩, .raw (.slice none 0 0), .int .i64 0] := ⟨_, _, Tryz.underlying152, Tryz.zeroValue152, fun w => by kernel_rfl, rfl⟩
set_option maxRecDepth 20000
variable {E : World}
def itT : PItem → TypeId
  | .phi _ _ _ => 148
  | .inst _ _ _ _ => 152
def itC : PItem → AV
  | .phi d f a => .agg [.str d, .fro 1 (f.map encS), .fro 1 (a.map encS)]
  | .inst op d a n => .agg [.int .i64 op, .str d, .fro 1 (a.map encS), .int .i64 n]
def itemV (x : PItem) : AV := .ifc (itT x) (itC x)
theorem encItem_eq (x : PItem) : encItem x = [itemV x] := by cases x <;> rfl
def optV : Option PItem → AV
  | none => .any
  | some x => itemV x
def OptR (o : Option PItem) : AV → OL → Prop := fun x _ => ∃ y, x = .tup [y, .bool o.isSome] ∧ ∀ i, o = some i → y = itemV i
theorem opt_ret {o : Option PItem} {y : AV} {b : Bool} {O : OL} (hb : b = o.isSome) (hy : ∀ i, o = some i → y = itemV i) : OptR o (.tup [y, .bool b]) O := ⟨y, by rw [hb], hy⟩
theorem opt_eq {α : Type} {p : Prop} [Decidable p] {x i : α} (h : (if p then some x else none) = some i) : x = i := by
  split at h
  · cases h; rfl
  · cases h
theorem opt_none {o : Option PItem} {y : AV} {O : OL} (h : o = none) : OptR o (.tup [y, .bool false]) O := opt_ret (by rw [h]; rfl) (fun i e => by rw [h] at e; cases e)
theorem AFun.opt {f : FuncId} {xs : List AV} {o : Option PItem} (h : ACall Tryz.prog E f xs [] (OptR o)) : AFun Tryz.prog E f xs (.tup [optV o, .bool o.isSome]) :=
  ACall.know h fun I F w v x O' ⟨y, hx, hy⟩ hr hs => ⟨I, .tup [optV o, .bool o.isSome], O', .refl _, by
    subst hx
    obtain ⟨vs, e, v1, us, e2, h1, h2⟩ := hr
    refine ⟨vs, e, v1, us, e2, ?_, h2⟩
    cases o with
    | none => trivial
    | some i => rw [hy i rfl] at h1; exact h1, hs, rfl⟩
theorem takesL_len (op : Int) : (takesL op).length ≤ 3 := by
  rcases kRow_mem op with h | h
  · unfold takesL; rw [h]; decide
  · have : ∀ r ∈ kindT, r.2.1.data.toList.length ≤ 3 := by decide
    have := this _ h
    unfold takesL; simpa using this
def atW (r : List ByteArray) (k : Nat) : ByteArray := r[k]?.getD ⟨#[]⟩
def opCons (dst h : ByteArray) (r : List ByteArray) : Option PItem :=
  if isOpW h = true ∧ makesB (opOf h) = !decide (dst = ⟨#[]⟩) then
    if isNum (opOf h) = true then
      if r.length = (takesL (opOf h)).length + 1 ∧ numOk (atW r (takesL (opOf h)).length) = true ∧ namesOk (r.take (takesL (opOf h)).length) = true then
        some (.inst (opOf h) dst (r.take (takesL (opOf h)).length) (numV (atW r (takesL (opOf h)).length)))
      else none
    else if r.length = (takesL (opOf h)).length ∧ namesOk r = true then some (.inst (opOf h) dst r 0) else none
  else none
def opItem (dst : ByteArray) : List ByteArray → Option PItem
  | [] => none
  | h :: r => opCons dst h r
set_option maxHeartbeats 1000000 in
theorem operationR (dst : ByteArray) (w : List ByteArray) (hl : w.length ≤ 100000) (hs : ∀ x ∈ w, x.size ≤ 100000) (hL : Letters E) (hT : Pows E) (hV : Vars0 E) :
    ACall Tryz.prog E 118 [.str dst, .fro 1 (w.map encS)] [] (OptR (opItem dst w)) := by
  refine ACall.intro Tryz.func118 rfl (by decide) rfl ?_
  refine AWP.seq ?_
  refine AWP.region rfl ?_
  refine AOps.val (Gv.assign (v := .raw _) rfl) ?_
  refine AOps.val (Gv.assign (v := .bool _) rfl) ?_
  refine AOps.nil ?_
  refine AWP.seq ?_
  refine AWP.seq ?_
  refine AWP.region rfl ?_
  refine AOps.val (Gv.move (v := .fro _ _) rfl) ?_
  refine AOps.val (Gv.lenM Tryz.underlying62 rfl) ?_
  refine AOps.val (Gv.eqlI rfl rfl) ?_
  refine AOps.nil ?_
  refine AWP.condP rfl (fun c0 => ?_) (fun c0 => ?_)
  · skip
    have h0 : w = [] := List.eq_nil_of_length_eq_zero (by omega)
    subst h0
    refine AWP.seq ?_
    refine AWP.region rfl ?_
    refine AOps.val (Gv.assign (v := .raw _) rfl) ?_
    refine AOps.val (Gv.assign (v := .bool _) rfl) ?_
    refine AOps.nil ?_
    refine AWP.ret ?_
    repeat (first | refine aseqQ_ret ?_ | refine ablockQ_ret ?_)
    refine afin.t2 (x := .raw _) (y := .bool _) rfl rfl ?_
    exact opt_none rfl
  · skip
    obtain ⟨h, r, rfl⟩ : ∃ h r, w = h :: r := by cases w with
      | nil => simp at c0
      | cons h r => exact ⟨h, r, rfl⟩
    have h3 := takesL_len (opOf h)
    have hrl : r.length ≤ 100000 := by simp at hl; omega
    have hrs : ∀ x ∈ r, x.size ≤ 100000 := fun x hx => hs x (.tail _ hx)
    refine AWP.skip ?_
    refine AWP.seq ?_
    refine AWP.region rfl ?_
    refine AOps.val (Gv.move (v := .fro _ _) rfl) ?_
    refine AOps.val (Gv.idxM (j := 0) Tryz.underlying62 Tryz.sizeOf9 rfl rfl rfl rfl) ?_
    refine AOps.val (Gv.load1F (c := .str _) Tryz.isAgg9 rfl) ?_
    refine AOps.callP (ofW_spec h) rfl ?_
    refine AOps.val (Gv.move (v := .tup _) rfl) ?_
    refine AOps.val (Gv.extract (v := .int _ _) rfl rfl) ?_
    refine AOps.val (Gv.extract (v := .bool _) rfl rfl) ?_
    refine AOps.val (Gv.assign (v := .int _ _) rfl) ?_
    refine AOps.val (Gv.assign (v := .bool _) rfl) ?_
    refine AOps.nil ?_
    refine AWP.seq ?_
    refine AWP.region rfl ?_
    refine AOps.val (Gv.move (v := .int _ _) rfl) ?_
    refine AOps.callP (makes_spec _) rfl ?_
    refine AOps.val (Gv.move (v := .tup _) rfl) ?_
    refine AOps.val (Gv.extract (v := .int _ _) rfl rfl) ?_
    refine AOps.val (Gv.extract (v := .bool _) rfl rfl) ?_
    refine AOps.val (Gv.assign (v := .int _ _) rfl) ?_
    refine AOps.val (Gv.assign (v := .bool _) rfl) ?_
    refine AOps.nil ?_
    refine AWP.seq ?_
    refine AWP.seq ?_
    refine AWP.region rfl ?_
    refine AOps.val (Gv.move (v := .bool _) rfl) ?_
    refine AOps.val (Gv.not rfl) ?_
    refine AOps.val (Gv.move (v := .bool _) rfl) ?_
    refine AOps.case (s := 30) rfl (fun co => ?_) (fun co => ?_)
    · skip
      have ho : isOpW h = false := by simpa using co
      refine AOps.guardFd rfl rfl co ?_
      refine AOps.guardFd rfl rfl co ?_
      refine AOps.guardFd rfl rfl co ?_
      refine AOps.guardFd rfl rfl co ?_
      refine AOps.val (Gv.pickT (v := .bool _) rfl co rfl) ?_
      refine AOps.nil ?_
      refine AWP.condT rfl rfl ?_
      refine AWP.seq ?_
      refine AWP.region rfl ?_
      refine AOps.val (Gv.assign (v := .raw _) rfl) ?_
      refine AOps.val (Gv.assign (v := .bool _) rfl) ?_
      refine AOps.nil ?_
      refine AWP.ret ?_
      repeat (first | refine aseqQ_ret ?_ | refine ablockQ_ret ?_)
      refine afin.t2 (x := .raw _) (y := .bool _) rfl rfl ?_
      exact opt_none (by show opCons dst h r = none; unfold opCons; rw [if_neg]; rintro ⟨h1, _⟩; rw [ho] at h1; cases h1)
    · skip
      have ho : isOpW h = true := by simpa using co
      refine AOps.guardT rfl rfl co ?_
      refine AOps.val (Gv.move (v := .bool _) rfl) ?_
      refine AOps.guardT rfl rfl co ?_
      refine AOps.val (Gv.move (v := .str _) rfl) ?_
      refine AOps.guardT rfl rfl co ?_
      refine AOps.val (Gv.neqT rfl rfl) ?_
      refine AOps.guardT rfl rfl co ?_
      refine AOps.val (Gv.neqB Tryz.underlying4 rfl rfl) ?_
      refine AOps.val (Gv.pickF (v := .bool _) rfl co rfl) ?_
      refine AOps.nil ?_
      refine AWP.cond rfl (fun cm => ?_) (fun cm => ?_)
      · skip
        refine AWP.seq ?_
        refine AWP.region rfl ?_
        refine AOps.val (Gv.assign (v := .raw _) rfl) ?_
        refine AOps.val (Gv.assign (v := .bool _) rfl) ?_
        refine AOps.nil ?_
        refine AWP.ret ?_
        repeat (first | refine aseqQ_ret ?_ | refine ablockQ_ret ?_)
        refine afin.t2 (x := .raw _) (y := .bool _) rfl rfl ?_
        exact opt_none (by show opCons dst h r = none; unfold opCons; rw [if_neg]; rintro ⟨_, hm⟩; rw [hm] at cm; simp at cm)
      · skip
        have hm : makesB (opOf h) = !decide (dst = ⟨#[]⟩) := by simpa using cm
        have hitem : opItem dst (h :: r) = if isNum (opOf h) = true then
            if r.length = (takesL (opOf h)).length + 1 ∧ numOk (atW r (takesL (opOf h)).length) = true ∧ namesOk (r.take (takesL (opOf h)).length) = true then
              some (.inst (opOf h) dst (r.take (takesL (opOf h)).length) (numV (atW r (takesL (opOf h)).length)))
            else none
          else if r.length = (takesL (opOf h)).length ∧ namesOk r = true then some (.inst (opOf h) dst r 0) else none := by
          show opCons dst h r = _; unfold opCons; rw [if_pos ⟨ho, hm⟩]
        refine AWP.skip ?_
        refine AWP.seq ?_
        refine AWP.region rfl ?_
        refine AOps.val (Gv.move (v := .int _ _) rfl) ?_
        refine AOps.val (Gv.move (v := .str _) rfl) ?_
        refine AOps.val (Gv.build (cps := [(0, [_]), (1, [_])]) (rs := [_, _, .raw (.slice none 0 0), .int .i64 0]) pl152 rfl rfl rfl) ?_
        refine AOps.alloc (cs := [.int .i64 0, .str ⟨#[]⟩, .raw (.slice none 0 0), .int .i64 0]) Tryz.zeroValue152 rfl rfl ?_
        intro i10
        refine AOps.storeW Tryz.sizeOf152 rfl rfl rfl rfl rfl rfl .head rfl ?_
        refine AOps.nil ?_
        refine AWP.seq ?_
        refine AWP.region rfl ?_
        refine AOps.val (Gv.move (v := .int _ _) rfl) ?_
        refine AOps.callP (takes_spec _) rfl ?_
        refine AOps.val (Gv.lenM Tryz.underlying134 rfl) ?_
        refine AOps.val (Gv.assign (v := .int _ _) rfl) ?_
        refine AOps.nil ?_
        refine AWP.seq ?_
        refine AWP.region rfl ?_
        refine AOps.val (Gv.move (v := .fro _ _) rfl) ?_
        refine AOps.val (Gv.cutLoM (j := 1) Tryz.underlying62 Tryz.sizeOf9 rfl rfl rfl (by simp)) ?_
        refine AOps.val (Gv.assign (v := .fro _ _) rfl) ?_
        refine AOps.nil ?_
        refine AWP.seq ?_
        refine AWP.seq ?_
        refine AWP.region rfl ?_
        refine AOps.val (Gv.move (v := .int _ _) rfl) ?_
        refine AOps.callP (numbered_spec _) rfl ?_
        refine AOps.nil ?_
        refine AWP.cond rfl (fun cn => ?_) (fun cn => ?_)
        · skip
          rw [if_pos cn] at hitem
          refine AWP.seq ?_
          refine AWP.seq ?_
          refine AWP.region rfl ?_
          refine AOps.val (Gv.move (v := .fro _ _) rfl) ?_
          refine AOps.val (Gv.lenM Tryz.underlying62 rfl) ?_
          refine AOps.val (Gv.move (v := .int _ _) rfl) ?_
          refine AOps.val (Gv.add rfl rfl (by unfold I64; omega)) ?_
          refine AOps.val (Gv.neqI rfl rfl) ?_
          refine AOps.nil ?_
          refine AWP.cond rfl (fun cl => ?_) (fun cl => ?_)
          · skip
            refine AWP.seq ?_
            refine AWP.region rfl ?_
            refine AOps.val (Gv.assign (v := .raw _) rfl) ?_
            refine AOps.val (Gv.assign (v := .bool _) rfl) ?_
            refine AOps.nil ?_
            refine AWP.ret ?_
            repeat (first | refine aseqQ_ret ?_ | refine ablockQ_ret ?_)
            refine afin.t2 (x := .raw _) (y := .bool _) rfl rfl ?_
            exact opt_none (by rw [hitem, if_neg]; rintro ⟨hlen, _⟩; simp at cl; omega)
          · skip
            have hlen : r.length = (takesL (opOf h)).length + 1 := by simp at cl; omega
            have hat : r[(takesL (opOf h)).length]? = some (atW r (takesL (opOf h)).length) := by unfold atW; rw [List.getElem?_eq_getElem (by omega)]; rfl
            refine AWP.skip ?_
            refine AWP.seq ?_
            refine AWP.region rfl ?_
            refine AOps.val (Gv.move (v := .fro _ _) rfl) ?_
            refine AOps.val (Gv.move (v := .int _ _) rfl) ?_
            refine AOps.val (Gv.idxM (j := (takesL (opOf h)).length) Tryz.underlying62 Tryz.sizeOf9 rfl rfl rfl hat) ?_
            refine AOps.val (Gv.load1F (c := .str _) Tryz.isAgg9 rfl) ?_
            refine AOps.callP (number_spec (atW r (takesL (opOf h)).length) (hrs _ (List.mem_of_getElem? hat)) hT hV) rfl ?_
            refine AOps.val (Gv.move (v := .tup _) rfl) ?_
            refine AOps.val (Gv.extract (v := .int _ _) rfl rfl) ?_
            refine AOps.val (Gv.extract (v := .bool _) rfl rfl) ?_
            refine AOps.val (Gv.fieldO Tryz.underlying152 rfl Tryz.sizeOf2 (by decide) rfl rfl) ?_
            refine AOps.storeC (l := [_]) (new := [_, _, _, _]) Tryz.sizeOf2 rfl rfl rfl rfl rfl rfl .head rfl rfl ?_
            refine AOps.val (Gv.assign (v := .bool _) rfl) ?_
            refine AOps.nil ?_
            refine AWP.region rfl ?_
            refine AOps.val (Gv.move (v := .fro _ _) rfl) ?_
            refine AOps.val (Gv.move (v := .int _ _) rfl) ?_
            refine AOps.val (Gv.cutHiM (j := (takesL (opOf h)).length) Tryz.underlying62 Tryz.sizeOf9 rfl rfl rfl (by simp; omega)) ?_
            refine AOps.val (Gv.assign (v := .fro _ _) rfl) ?_
            refine AOps.nil ?_
            refine AWP.seq ?_
            refine AWP.region rfl ?_
            refine AOps.val (Gv.move (v := .fro _ _) rfl) ?_
            refine AOps.val (Gv.fieldO Tryz.underlying152 rfl Tryz.sizeOf62 (by decide) rfl rfl) ?_
            refine AOps.storeC (l := [_]) (new := [_, _, _, _]) Tryz.sizeOf62 rfl rfl rfl rfl rfl rfl .head rfl rfl ?_
            refine AOps.nil ?_
            refine AWP.seq ?_
            refine AWP.regionDraw (fun j => false) (by kernel_rfl) rfl (Part.perm (.r (.rest _))) ?_
            refine AAny.take (i := 0) rfl (by kernel_rfl) (by kernel_rfl) (by kernel_rfl) (by kernel_rfl) (by kernel_rfl) (by kernel_rfl) (Gv.loadWC Tryz.isAgg152 Tryz.sizeOf152 rfl ⟨_, .head⟩ rfl) ?_
            refine AAny.take (i := 1) rfl (by kernel_rfl) (by kernel_rfl) (by kernel_rfl) (by kernel_rfl) (by kernel_rfl) (by kernel_rfl) (Gv.mkI Tryz.underlying152 rfl rfl) ?_
            refine AAny.take (i := 2) rfl (by kernel_rfl) (by kernel_rfl) (by kernel_rfl) (by kernel_rfl) (by kernel_rfl) (by kernel_rfl) (Gv.move (v := .bool _) rfl) ?_
            refine AAny.take (i := 3) rfl (by kernel_rfl) (by kernel_rfl) (by kernel_rfl) (by kernel_rfl) (by kernel_rfl) (by kernel_rfl) (Gv.move (v := .bool _) rfl) ?_
            refine AAny.case (s := 68) rfl (fun c1 => ?_) (fun c1 => ?_)
            · skip
              refine AAny.takeT (i := 4) rfl rfl rfl c1 (by kernel_rfl) (by kernel_rfl) (by kernel_rfl) (by kernel_rfl) (by kernel_rfl) (by kernel_rfl) (Gv.move (v := .fro _ _) rfl) ?_
              refine AAny.takeT (i := 5) rfl rfl rfl c1 (by kernel_rfl) (by kernel_rfl) (by kernel_rfl) (by kernel_rfl) (by kernel_rfl) (by kernel_rfl) (Gv.lenM Tryz.underlying62 rfl) ?_
              refine AAny.takeT (i := 6) rfl rfl rfl c1 (by kernel_rfl) (by kernel_rfl) (by kernel_rfl) (by kernel_rfl) (by kernel_rfl) (by kernel_rfl) (Gv.move (v := .int _ _) rfl) ?_
              refine AAny.takeT (i := 7) rfl rfl rfl c1 (by kernel_rfl) (by kernel_rfl) (by kernel_rfl) (by kernel_rfl) (by kernel_rfl) (by kernel_rfl) (Gv.eqlI rfl rfl) ?_
              refine AAny.take (i := 8) rfl (by kernel_rfl) (by kernel_rfl) (by kernel_rfl) (by kernel_rfl) (by kernel_rfl) (by kernel_rfl) (Gv.pickT (v := .bool _) rfl c1 rfl) ?_
              refine AAny.take (i := 9) rfl (by kernel_rfl) (by kernel_rfl) (by kernel_rfl) (by kernel_rfl) (by kernel_rfl) (by kernel_rfl) (Gv.move (v := .bool _) rfl) ?_
              refine AAny.case (s := 74) rfl (fun c2 => ?_) (fun c2 => ?_)
              · skip
                refine AAny.takeT (i := 10) rfl rfl rfl c2 (by kernel_rfl) (by kernel_rfl) (by kernel_rfl) (by kernel_rfl) (by kernel_rfl) (by kernel_rfl) (Gv.move (v := .fro _ _) rfl) ?_
                refine AAny.one (i := 11) rfl (by kernel_rfl) ?_
                refine AOps.guardT rfl rfl c2 ?_
                refine AOps.callP (names_spec (r.take (takesL (opOf h)).length) (by rw [List.length_take]; omega) (fun x hx => hrs x (List.mem_of_mem_take hx)) hL) rfl ?_
                refine AOps.nil ?_
                refine AAny.take (i := 12) rfl (by kernel_rfl) (by kernel_rfl) (by kernel_rfl) (by kernel_rfl) (by kernel_rfl) (by kernel_rfl) (Gv.pickT (v := .bool _) rfl c2 rfl) ?_
                refine AAny.take (i := 13) rfl (by kernel_rfl) (by kernel_rfl) (by kernel_rfl) (by kernel_rfl) (by kernel_rfl) (by kernel_rfl) (Gv.assign (v := .ifc _ _) rfl) ?_
                refine AAny.take (i := 14) rfl (by kernel_rfl) (by kernel_rfl) (by kernel_rfl) (by kernel_rfl) (by kernel_rfl) (by kernel_rfl) (Gv.assign (v := .bool _) rfl) ?_
                refine AAny.done (by kernel_rfl) ?_
                refine AWP.ret ?_
                repeat (first | refine aseqQ_ret ?_ | refine ablockQ_ret ?_)
                refine afin.t2 (x := .ifc _ _) (y := .bool _) rfl rfl ?_
                exact opt_ret (by rw [hitem]; simp_all <;> (try (split <;> simp_all)) <;> first | (rename_i hz; exact hz (by omega)) | (intro hz; omega)) (fun i hi => by rw [hitem] at hi; rw [← opt_eq hi]; rfl)
              · skip
                refine AAny.takeF (i := 10) rfl rfl rfl c2 (by kernel_rfl) (by kernel_rfl) (by kernel_rfl) (by kernel_rfl) (by kernel_rfl) (by kernel_rfl) ?_
                refine AAny.takeF (i := 11) rfl rfl rfl c2 (by kernel_rfl) (by kernel_rfl) (by kernel_rfl) (by kernel_rfl) (by kernel_rfl) (by kernel_rfl) ?_
                refine AAny.take (i := 12) rfl (by kernel_rfl) (by kernel_rfl) (by kernel_rfl) (by kernel_rfl) (by kernel_rfl) (by kernel_rfl) (Gv.pickF (v := .bool _) rfl c2 rfl) ?_
                refine AAny.take (i := 13) rfl (by kernel_rfl) (by kernel_rfl) (by kernel_rfl) (by kernel_rfl) (by kernel_rfl) (by kernel_rfl) (Gv.assign (v := .ifc _ _) rfl) ?_
                refine AAny.take (i := 14) rfl (by kernel_rfl) (by kernel_rfl) (by kernel_rfl) (by kernel_rfl) (by kernel_rfl) (by kernel_rfl) (Gv.assign (v := .bool _) rfl) ?_
                refine AAny.done (by kernel_rfl) ?_
                refine AWP.ret ?_
                repeat (first | refine aseqQ_ret ?_ | refine ablockQ_ret ?_)
                refine afin.t2 (x := .ifc _ _) (y := .bool _) rfl rfl ?_
                exact opt_ret (by rw [hitem]; simp_all <;> (try (split <;> simp_all)) <;> first | (rename_i hz; exact hz (by omega)) | (intro hz; omega)) (fun i hi => by rw [hitem] at hi; rw [← opt_eq hi]; rfl)
            · skip
              refine AAny.takeF (i := 4) rfl rfl rfl c1 (by kernel_rfl) (by kernel_rfl) (by kernel_rfl) (by kernel_rfl) (by kernel_rfl) (by kernel_rfl) ?_
              refine AAny.takeF (i := 5) rfl rfl rfl c1 (by kernel_rfl) (by kernel_rfl) (by kernel_rfl) (by kernel_rfl) (by kernel_rfl) (by kernel_rfl) ?_
              refine AAny.takeF (i := 6) rfl rfl rfl c1 (by kernel_rfl) (by kernel_rfl) (by kernel_rfl) (by kernel_rfl) (by kernel_rfl) (by kernel_rfl) ?_
              refine AAny.takeF (i := 7) rfl rfl rfl c1 (by kernel_rfl) (by kernel_rfl) (by kernel_rfl) (by kernel_rfl) (by kernel_rfl) (by kernel_rfl) ?_
              refine AAny.take (i := 8) rfl (by kernel_rfl) (by kernel_rfl) (by kernel_rfl) (by kernel_rfl) (by kernel_rfl) (by kernel_rfl) (Gv.pickF (v := .bool _) rfl c1 rfl) ?_
              refine AAny.take (i := 9) rfl (by kernel_rfl) (by kernel_rfl) (by kernel_rfl) (by kernel_rfl) (by kernel_rfl) (by kernel_rfl) (Gv.move (v := .bool _) rfl) ?_
              refine AAny.takeF (i := 10) rfl rfl rfl rfl (by kernel_rfl) (by kernel_rfl) (by kernel_rfl) (by kernel_rfl) (by kernel_rfl) (by kernel_rfl) ?_
              refine AAny.takeF (i := 11) rfl rfl rfl rfl (by kernel_rfl) (by kernel_rfl) (by kernel_rfl) (by kernel_rfl) (by kernel_rfl) (by kernel_rfl) ?_
              refine AAny.take (i := 12) rfl (by kernel_rfl) (by kernel_rfl) (by kernel_rfl) (by kernel_rfl) (by kernel_rfl) (by kernel_rfl) (Gv.pickF (v := .bool _) rfl rfl rfl) ?_
              refine AAny.take (i := 13) rfl (by kernel_rfl) (by kernel_rfl) (by kernel_rfl) (by kernel_rfl) (by kernel_rfl) (by kernel_rfl) (Gv.assign (v := .ifc _ _) rfl) ?_
              refine AAny.take (i := 14) rfl (by kernel_rfl) (by kernel_rfl) (by kernel_rfl) (by kernel_rfl) (by kernel_rfl) (by kernel_rfl) (Gv.assign (v := .bool _) rfl) ?_
              refine AAny.done (by kernel_rfl) ?_
              refine AWP.ret ?_
              repeat (first | refine aseqQ_ret ?_ | refine ablockQ_ret ?_)
              refine afin.t2 (x := .ifc _ _) (y := .bool _) rfl rfl ?_
              exact opt_ret (by rw [hitem]; simp_all <;> (try (split <;> simp_all)) <;> first | (rename_i hz; exact hz (by omega)) | (intro hz; omega)) (fun i hi => by rw [hitem] at hi; rw [← opt_eq hi]; rfl)
        · skip
          rw [if_neg (by simpa using cn)] at hitem
          refine AWP.skip ?_
          refine AWP.seq ?_
          refine AWP.region rfl ?_
          refine AOps.val (Gv.move (v := .fro _ _) rfl) ?_
          refine AOps.val (Gv.fieldO Tryz.underlying152 rfl Tryz.sizeOf62 (by decide) rfl rfl) ?_
          refine AOps.storeC (l := [_]) (new := [_, _, _, _]) Tryz.sizeOf62 rfl rfl rfl rfl rfl rfl .head rfl rfl ?_
          refine AOps.nil ?_
          refine AWP.seq ?_
          refine AWP.regionDraw (fun j => false) (by kernel_rfl) rfl (Part.perm (.r (.rest _))) ?_
          refine AAny.take (i := 0) rfl (by kernel_rfl) (by kernel_rfl) (by kernel_rfl) (by kernel_rfl) (by kernel_rfl) (by kernel_rfl) (Gv.loadWC Tryz.isAgg152 Tryz.sizeOf152 rfl ⟨_, .head⟩ rfl) ?_
          refine AAny.take (i := 1) rfl (by kernel_rfl) (by kernel_rfl) (by kernel_rfl) (by kernel_rfl) (by kernel_rfl) (by kernel_rfl) (Gv.mkI Tryz.underlying152 rfl rfl) ?_
          refine AAny.take (i := 2) rfl (by kernel_rfl) (by kernel_rfl) (by kernel_rfl) (by kernel_rfl) (by kernel_rfl) (by kernel_rfl) (Gv.move (v := .bool _) rfl) ?_
          refine AAny.take (i := 3) rfl (by kernel_rfl) (by kernel_rfl) (by kernel_rfl) (by kernel_rfl) (by kernel_rfl) (by kernel_rfl) (Gv.move (v := .bool _) rfl) ?_
          refine AAny.case (s := 68) rfl (fun c3 => ?_) (fun c3 => ?_)
          · skip
            refine AAny.takeT (i := 4) rfl rfl rfl c3 (by kernel_rfl) (by kernel_rfl) (by kernel_rfl) (by kernel_rfl) (by kernel_rfl) (by kernel_rfl) (Gv.move (v := .fro _ _) rfl) ?_
            refine AAny.takeT (i := 5) rfl rfl rfl c3 (by kernel_rfl) (by kernel_rfl) (by kernel_rfl) (by kernel_rfl) (by kernel_rfl) (by kernel_rfl) (Gv.lenM Tryz.underlying62 rfl) ?_
            refine AAny.takeT (i := 6) rfl rfl rfl c3 (by kernel_rfl) (by kernel_rfl) (by kernel_rfl) (by kernel_rfl) (by kernel_rfl) (by kernel_rfl) (Gv.move (v := .int _ _) rfl) ?_
            refine AAny.takeT (i := 7) rfl rfl rfl c3 (by kernel_rfl) (by kernel_rfl) (by kernel_rfl) (by kernel_rfl) (by kernel_rfl) (by kernel_rfl) (Gv.eqlI rfl rfl) ?_
            refine AAny.take (i := 8) rfl (by kernel_rfl) (by kernel_rfl) (by kernel_rfl) (by kernel_rfl) (by kernel_rfl) (by kernel_rfl) (Gv.pickT (v := .bool _) rfl c3 rfl) ?_
            refine AAny.take (i := 9) rfl (by kernel_rfl) (by kernel_rfl) (by kernel_rfl) (by kernel_rfl) (by kernel_rfl) (by kernel_rfl) (Gv.move (v := .bool _) rfl) ?_
            refine AAny.case (s := 74) rfl (fun c4 => ?_) (fun c4 => ?_)
            · skip
              refine AAny.takeT (i := 10) rfl rfl rfl c4 (by kernel_rfl) (by kernel_rfl) (by kernel_rfl) (by kernel_rfl) (by kernel_rfl) (by kernel_rfl) (Gv.move (v := .fro _ _) rfl) ?_
              refine AAny.one (i := 11) rfl (by kernel_rfl) ?_
              refine AOps.guardT rfl rfl c4 ?_
              refine AOps.callP (names_spec r hrl hrs hL) rfl ?_
              refine AOps.nil ?_
              refine AAny.take (i := 12) rfl (by kernel_rfl) (by kernel_rfl) (by kernel_rfl) (by kernel_rfl) (by kernel_rfl) (by kernel_rfl) (Gv.pickT (v := .bool _) rfl c4 rfl) ?_
              refine AAny.take (i := 13) rfl (by kernel_rfl) (by kernel_rfl) (by kernel_rfl) (by kernel_rfl) (by kernel_rfl) (by kernel_rfl) (Gv.assign (v := .ifc _ _) rfl) ?_
              refine AAny.take (i := 14) rfl (by kernel_rfl) (by kernel_rfl) (by kernel_rfl) (by kernel_rfl) (by kernel_rfl) (by kernel_rfl) (Gv.assign (v := .bool _) rfl) ?_
              refine AAny.done (by kernel_rfl) ?_
              refine AWP.ret ?_
              repeat (first | refine aseqQ_ret ?_ | refine ablockQ_ret ?_)
              refine afin.t2 (x := .ifc _ _) (y := .bool _) rfl rfl ?_
              exact opt_ret (by rw [hitem]; simp_all <;> (try (split <;> simp_all)) <;> first | (rename_i hz; exact hz (by omega)) | (intro hz; omega)) (fun i hi => by rw [hitem] at hi; rw [← opt_eq hi]; rfl)
            · skip
              refine AAny.takeF (i := 10) rfl rfl rfl c4 (by kernel_rfl) (by kernel_rfl) (by kernel_rfl) (by kernel_rfl) (by kernel_rfl) (by kernel_rfl) ?_
              refine AAny.takeF (i := 11) rfl rfl rfl c4 (by kernel_rfl) (by kernel_rfl) (by kernel_rfl) (by kernel_rfl) (by kernel_rfl) (by kernel_rfl) ?_
              refine AAny.take (i := 12) rfl (by kernel_rfl) (by kernel_rfl) (by kernel_rfl) (by kernel_rfl) (by kernel_rfl) (by kernel_rfl) (Gv.pickF (v := .bool _) rfl c4 rfl) ?_
              refine AAny.take (i := 13) rfl (by kernel_rfl) (by kernel_rfl) (by kernel_rfl) (by kernel_rfl) (by kernel_rfl) (by kernel_rfl) (Gv.assign (v := .ifc _ _) rfl) ?_
              refine AAny.take (i := 14) rfl (by kernel_rfl) (by kernel_rfl) (by kernel_rfl) (by kernel_rfl) (by kernel_rfl) (by kernel_rfl) (Gv.assign (v := .bool _) rfl) ?_
              refine AAny.done (by kernel_rfl) ?_
              refine AWP.ret ?_
              repeat (first | refine aseqQ_ret ?_ | refine ablockQ_ret ?_)
              refine afin.t2 (x := .ifc _ _) (y := .bool _) rfl rfl ?_
              exact opt_ret (by rw [hitem]; simp_all <;> (try (split <;> simp_all)) <;> first | (rename_i hz; exact hz (by omega)) | (intro hz; omega)) (fun i hi => by rw [hitem] at hi; rw [← opt_eq hi]; rfl)
          · skip
            refine AAny.takeF (i := 4) rfl rfl rfl c3 (by kernel_rfl) (by kernel_rfl) (by kernel_rfl) (by kernel_rfl) (by kernel_rfl) (by kernel_rfl) ?_
            refine AAny.takeF (i := 5) rfl rfl rfl c3 (by kernel_rfl) (by kernel_rfl) (by kernel_rfl) (by kernel_rfl) (by kernel_rfl) (by kernel_rfl) ?_
            refine AAny.takeF (i := 6) rfl rfl rfl c3 (by kernel_rfl) (by kernel_rfl) (by kernel_rfl) (by kernel_rfl) (by kernel_rfl) (by kernel_rfl) ?_
            refine AAny.takeF (i := 7) rfl rfl rfl c3 (by kernel_rfl) (by kernel_rfl) (by kernel_rfl) (by kernel_rfl) (by kernel_rfl) (by kernel_rfl) ?_
            refine AAny.take (i := 8) rfl (by kernel_rfl) (by kernel_rfl) (by kernel_rfl) (by kernel_rfl) (by kernel_rfl) (by kernel_rfl) (Gv.pickF (v := .bool _) rfl c3 rfl) ?_
            refine AAny.take (i := 9) rfl (by kernel_rfl) (by kernel_rfl) (by kernel_rfl) (by kernel_rfl) (by kernel_rfl) (by kernel_rfl) (Gv.move (v := .bool _) rfl) ?_
            refine AAny.takeF (i := 10) rfl rfl rfl rfl (by kernel_rfl) (by kernel_rfl) (by kernel_rfl) (by kernel_rfl) (by kernel_rfl) (by kernel_rfl) ?_
            refine AAny.takeF (i := 11) rfl rfl rfl rfl (by kernel_rfl) (by kernel_rfl) (by kernel_rfl) (by kernel_rfl) (by kernel_rfl) (by kernel_rfl) ?_
            refine AAny.take (i := 12) rfl (by kernel_rfl) (by kernel_rfl) (by kernel_rfl) (by kernel_rfl) (by kernel_rfl) (by kernel_rfl) (Gv.pickF (v := .bool _) rfl rfl rfl) ?_
            refine AAny.take (i := 13) rfl (by kernel_rfl) (by kernel_rfl) (by kernel_rfl) (by kernel_rfl) (by kernel_rfl) (by kernel_rfl) (Gv.assign (v := .ifc _ _) rfl) ?_
            refine AAny.take (i := 14) rfl (by kernel_rfl) (by kernel_rfl) (by kernel_rfl) (by kernel_rfl) (by kernel_rfl) (by kernel_rfl) (Gv.assign (v := .bool _) rfl) ?_
            refine AAny.done (by kernel_rfl) ?_
            refine AWP.ret ?_
            repeat (first | refine aseqQ_ret ?_ | refine ablockQ_ret ?_)
            refine afin.t2 (x := .ifc _ _) (y := .bool _) rfl rfl ?_
            exact opt_ret (by rw [hitem]; simp_all <;> (try (split <;> simp_all)) <;> first | (rename_i hz; exact hz (by omega)) | (intro hz; omega)) (fun i hi => by rw [hitem] at hi; rw [← opt_eq hi]; rfl)
theorem operation_spec (dst : ByteArray) (w : List ByteArray) (hl : w.length ≤ 100000) (hs : ∀ x ∈ w, x.size ≤ 100000) (hL : Letters E) (hT : Pows E) (hV : Vars0 E) :
    AFun Tryz.prog E 118 [.str dst, .fro 1 (w.map encS)] (.tup [optV (opItem dst w), .bool (opItem dst w).isSome]) := AFun.opt (operationR dst w hl hs hL hT hV)
end Go.Proofs.YtdkhlgiohpdihaaGreatDoor
namespace Go.Proofs.YtdkhlgiohpdihaaGreatDoor
open Go.Proofs Go.Lib Go.Shelf Go.RowKit
set_option maxRecDepth 20000
variable {E : World}
def eqS : ByteArray := ⟨#[61]⟩
def phiS : ByteArray := ⟨#[112, 104, 105]⟩
def phiItem (dst : ByteArray) (w : List ByteArray) : Option PItem := if phiOk w = true then some (.phi dst (evens w) (odds w)) else none
def instrItem (w : List ByteArray) : Option PItem :=
  if w.length < 2 ∨ ¬ atW w 1 = eqS then opItem ⟨#[]⟩ w
  else if ¬ scanName (atW w 0) = true ∨ w.length < 3 then none
  else if atW w 2 = phiS then phiItem (atW w 0) (w.drop 3) else opItem (atW w 0) (w.drop 2)
theorem atW_get {w : List ByteArray} {k : Nat} (h : k < w.length) : w[k]? = some (atW w k) := by unfold atW; rw [List.getElem?_eq_getElem h]; rfl
theorem optR_mk (o : Option PItem) {O : OL} : OptR o (.tup [optV o, .bool o.isSome]) O := ⟨_, rfl, fun i e => by rw [e]; rfl⟩
theorem tphi_opt (dst : ByteArray) (w : List ByteArray) (hl : w.length ≤ 100000) (hs : ∀ x ∈ w, x.size ≤ 100000) (hL : Letters E) :
    AFun Tryz.prog E 119 [.str dst, .fro 1 (w.map encS)] (.tup [optV (phiItem dst w), .bool (phiItem dst w).isSome]) :=
  AFun.opt (ACall.mono (tphi_spec dst w hl hs hL) fun x O h => by
    subst h
    unfold phiItem
    by_cases hp : phiOk w = true
    · rw [if_pos hp, hp]; exact opt_ret rfl (fun i e => by cases e; rfl)
    · have hp2 : phiOk w = false := by simpa using hp
      rw [if_neg hp, hp2]; exact opt_none rfl)
theorem instructionR (w : List ByteArray) (hl : w.length ≤ 100000) (hs : ∀ x ∈ w, x.size ≤ 100000) (hL : Letters E) (hT : Pows E) (hV : Vars0 E) :
    ACall Tryz.prog E 102 [.fro 1 (w.map encS)] [] (OptR (instrItem w)) := by
  have hsz : ∀ k, (atW w k).size ≤ 100000 := fun k => by
    unfold atW
    cases h : w[k]? with
    | none => exact Nat.zero_le _
    | some x => exact hs x (List.mem_of_getElem? h)
  refine ACall.intro Tryz.func102 rfl (by decide) rfl ?_
  refine AWP.seq ?_
  refine AWP.region rfl ?_
  refine AOps.val (Gv.assign (v := .raw _) rfl) ?_
  refine AOps.val (Gv.assign (v := .bool _) rfl) ?_
  refine AOps.nil ?_
  refine AWP.seq ?_
  refine AWP.seq ?_
  refine AWP.region rfl ?_
  refine AOps.val (Gv.move (v := .fro _ _) rfl) ?_
  refine AOps.val (Gv.lenM Tryz.underlying62 rfl) ?_
  refine AOps.val (Gv.lss rfl rfl) ?_
  refine AOps.val (Gv.move (v := .bool _) rfl) ?_
  by_cases h2 : w.length < 2
  · skip
    have hi : instrItem w = opItem ⟨#[]⟩ w := by unfold instrItem; rw [if_pos (.inl h2)]
    refine AOps.guardFd rfl rfl (by simp; omega) ?_
    refine AOps.guardFd rfl rfl (by simp; omega) ?_
    refine AOps.guardFd rfl rfl (by simp; omega) ?_
    refine AOps.guardFd rfl rfl (by simp; omega) ?_
    refine AOps.val (Gv.pickT (v := .bool _) rfl (by simp; omega) rfl) ?_
    refine AOps.nil ?_
    refine AWP.condT rfl rfl ?_
    refine AWP.seq ?_
    refine AWP.region rfl ?_
    refine AOps.val (Gv.move (v := .fro _ _) rfl) ?_
    refine AOps.callP (operation_spec ⟨#[]⟩ w hl hs hL hT hV) rfl ?_
    refine AOps.val (Gv.extract (v := _) rfl rfl) ?_
    refine AOps.val (Gv.extract (v := .bool _) rfl rfl) ?_
    refine AOps.val (Gv.assign (v := _) rfl) ?_
    refine AOps.val (Gv.assign (v := .bool _) rfl) ?_
    refine AOps.nil ?_
    refine AWP.ret ?_
    repeat (first | refine aseqQ_ret ?_ | refine ablockQ_ret ?_)
    refine afin.t2 (x := _) (y := .bool _) rfl rfl ?_
    rw [hi]; exact optR_mk _
  · skip
    refine AOps.guardT rfl rfl (by simp; omega) ?_
    refine AOps.val (Gv.move (v := .fro _ _) rfl) ?_
    refine AOps.guardT rfl rfl (by simp; omega) ?_
    refine AOps.val (Gv.idxM (j := 1) Tryz.underlying62 Tryz.sizeOf9 rfl rfl rfl (atW_get (by omega))) ?_
    refine AOps.guardT rfl rfl (by simp; omega) ?_
    refine AOps.val (Gv.load1F (c := .str _) Tryz.isAgg9 rfl) ?_
    refine AOps.guardT rfl rfl (by simp; omega) ?_
    refine AOps.val (Gv.neqT rfl rfl) ?_
    refine AOps.val (Gv.pickF (v := .bool _) rfl (by simp; omega) rfl) ?_
    refine AOps.nil ?_
    refine AWP.cond rfl (fun ce => ?_) (fun ce => ?_)
    · skip
      have hi : instrItem w = opItem ⟨#[]⟩ w := by unfold instrItem; rw [if_pos (.inr (by unfold eqS; simpa using ce))]
      refine AWP.seq ?_
      refine AWP.region rfl ?_
      refine AOps.val (Gv.move (v := .fro _ _) rfl) ?_
      refine AOps.callP (operation_spec ⟨#[]⟩ w hl hs hL hT hV) rfl ?_
      refine AOps.val (Gv.extract (v := _) rfl rfl) ?_
      refine AOps.val (Gv.extract (v := .bool _) rfl rfl) ?_
      refine AOps.val (Gv.assign (v := _) rfl) ?_
      refine AOps.val (Gv.assign (v := .bool _) rfl) ?_
      refine AOps.nil ?_
      refine AWP.ret ?_
      repeat (first | refine aseqQ_ret ?_ | refine ablockQ_ret ?_)
      refine afin.t2 (x := _) (y := .bool _) rfl rfl ?_
      rw [hi]; exact optR_mk _
    · skip
      have hq : atW w 1 = eqS := by unfold eqS; simpa using ce
      refine AWP.skip ?_
      refine AWP.seq ?_
      refine AWP.seq ?_
      refine AWP.region rfl ?_
      refine AOps.val (Gv.move (v := .fro _ _) rfl) ?_
      refine AOps.val (Gv.idxM (j := 0) Tryz.underlying62 Tryz.sizeOf9 rfl rfl rfl (atW_get (by omega))) ?_
      refine AOps.val (Gv.load1F (c := .str _) Tryz.isAgg9 rfl) ?_
      refine AOps.callP (zname_spec _ (by have := hsz 0; omega) hL) rfl ?_
      refine AOps.val (Gv.not rfl) ?_
      refine AOps.val (Gv.move (v := .bool _) rfl) ?_
      by_cases h3 : w.length < 3
      · skip
        have hi : instrItem w = none := by unfold instrItem; rw [if_neg (by simp [hq]; omega), if_pos (.inr h3)]
        refine AOps.case (s := 22) rfl (fun cs => ?_) (fun cs => ?_)
        · skip
          refine AOps.guardFd rfl rfl cs ?_
          refine AOps.guardFd rfl rfl cs ?_
          refine AOps.guardFd rfl rfl cs ?_
          refine AOps.val (Gv.pickT (v := .bool _) rfl cs rfl) ?_
          refine AOps.nil ?_
          refine AWP.condT rfl rfl ?_
          refine AWP.seq ?_
          refine AWP.region rfl ?_
          refine AOps.val (Gv.assign (v := .raw _) rfl) ?_
          refine AOps.val (Gv.assign (v := .bool _) rfl) ?_
          refine AOps.nil ?_
          refine AWP.ret ?_
          repeat (first | refine aseqQ_ret ?_ | refine ablockQ_ret ?_)
          refine afin.t2 (x := .raw _) (y := .bool _) rfl rfl ?_
          exact opt_none hi
        · skip
          refine AOps.guardT rfl rfl cs ?_
          refine AOps.val (Gv.move (v := .fro _ _) rfl) ?_
          refine AOps.guardT rfl rfl cs ?_
          refine AOps.val (Gv.lenM Tryz.underlying62 rfl) ?_
          refine AOps.guardT rfl rfl cs ?_
          refine AOps.val (Gv.lss rfl rfl) ?_
          refine AOps.val (Gv.pickF (v := .bool _) rfl cs rfl) ?_
          refine AOps.nil ?_
          refine AWP.condT rfl (by simp; omega) ?_
          refine AWP.seq ?_
          refine AWP.region rfl ?_
          refine AOps.val (Gv.assign (v := .raw _) rfl) ?_
          refine AOps.val (Gv.assign (v := .bool _) rfl) ?_
          refine AOps.nil ?_
          refine AWP.ret ?_
          repeat (first | refine aseqQ_ret ?_ | refine ablockQ_ret ?_)
          refine afin.t2 (x := .raw _) (y := .bool _) rfl rfl ?_
          exact opt_none hi
      · skip
        refine AOps.case (s := 22) rfl (fun cs => ?_) (fun cs => ?_)
        · skip
          have hi : instrItem w = none := by unfold instrItem; rw [if_neg (by simp [hq]; omega), if_pos (.inl (by simpa using cs))]
          refine AOps.guardFd rfl rfl cs ?_
          refine AOps.guardFd rfl rfl cs ?_
          refine AOps.guardFd rfl rfl cs ?_
          refine AOps.val (Gv.pickT (v := .bool _) rfl cs rfl) ?_
          refine AOps.nil ?_
          refine AWP.condT rfl rfl ?_
          refine AWP.seq ?_
          refine AWP.region rfl ?_
          refine AOps.val (Gv.assign (v := .raw _) rfl) ?_
          refine AOps.val (Gv.assign (v := .bool _) rfl) ?_
          refine AOps.nil ?_
          refine AWP.ret ?_
          repeat (first | refine aseqQ_ret ?_ | refine ablockQ_ret ?_)
          refine afin.t2 (x := .raw _) (y := .bool _) rfl rfl ?_
          exact opt_none hi
        · skip
          have hn : scanName (atW w 0) = true := by simpa using cs
          refine AOps.guardT rfl rfl cs ?_
          refine AOps.val (Gv.move (v := .fro _ _) rfl) ?_
          refine AOps.guardT rfl rfl cs ?_
          refine AOps.val (Gv.lenM Tryz.underlying62 rfl) ?_
          refine AOps.guardT rfl rfl cs ?_
          refine AOps.val (Gv.lss rfl rfl) ?_
          refine AOps.val (Gv.pickF (v := .bool _) rfl cs rfl) ?_
          refine AOps.nil ?_
          refine AWP.condF rfl (by simp; omega) ?_
          refine AWP.skip ?_
          refine AWP.seq ?_
          refine AWP.seq ?_
          refine AWP.region rfl ?_
          refine AOps.val (Gv.move (v := .fro _ _) rfl) ?_
          refine AOps.val (Gv.idxM (j := 2) Tryz.underlying62 Tryz.sizeOf9 rfl rfl rfl (atW_get (by omega))) ?_
          refine AOps.val (Gv.load1F (c := .str _) Tryz.isAgg9 rfl) ?_
          refine AOps.val (Gv.eqlT rfl rfl) ?_
          refine AOps.nil ?_
          refine AWP.condP rfl (fun cp => ?_) (fun cp => ?_)
          · skip
            have cp : atW w 2 = phiS := cp
            have hi : instrItem w = phiItem (atW w 0) (w.drop 3) := by unfold instrItem; rw [if_neg (by simp [hq]; omega), if_neg (by simp [hn]; omega), if_pos cp]
            refine AWP.seq ?_
            refine AWP.regionDraw (fun j => false) (by kernel_rfl) rfl (Part.perm (.rest _)) ?_
            refine AAny.take (i := 0) rfl (by kernel_rfl) (by kernel_rfl) (by kernel_rfl) (by kernel_rfl) (by kernel_rfl) (by kernel_rfl) (Gv.move (v := .fro _ _) rfl) ?_
            refine AAny.take (i := 1) rfl (by kernel_rfl) (by kernel_rfl) (by kernel_rfl) (by kernel_rfl) (by kernel_rfl) (by kernel_rfl) (Gv.idxM (j := 0) Tryz.underlying62 Tryz.sizeOf9 rfl rfl rfl (atW_get (by omega))) ?_
            refine AAny.take (i := 2) rfl (by kernel_rfl) (by kernel_rfl) (by kernel_rfl) (by kernel_rfl) (by kernel_rfl) (by kernel_rfl) (Gv.load1F (c := .str _) Tryz.isAgg9 rfl) ?_
            refine AAny.take (i := 3) rfl (by kernel_rfl) (by kernel_rfl) (by kernel_rfl) (by kernel_rfl) (by kernel_rfl) (by kernel_rfl) (Gv.move (v := .fro _ _) rfl) ?_
            refine AAny.take (i := 4) rfl (by kernel_rfl) (by kernel_rfl) (by kernel_rfl) (by kernel_rfl) (by kernel_rfl) (by kernel_rfl) (Gv.cutLoM (j := 3) Tryz.underlying62 Tryz.sizeOf9 rfl rfl rfl (by omega)) ?_
            refine AAny.one (i := 5) rfl (by kernel_rfl) ?_
            refine AOps.callP (tphi_opt _ (w.drop 3) (by simp; omega) (fun x hx => hs x (List.mem_of_mem_drop hx)) hL) rfl ?_
            refine AOps.nil ?_
            refine AAny.take (i := 6) rfl (by kernel_rfl) (by kernel_rfl) (by kernel_rfl) (by kernel_rfl) (by kernel_rfl) (by kernel_rfl) (Gv.extract (v := _) rfl rfl) ?_
            refine AAny.take (i := 7) rfl (by kernel_rfl) (by kernel_rfl) (by kernel_rfl) (by kernel_rfl) (by kernel_rfl) (by kernel_rfl) (Gv.extract (v := .bool _) rfl rfl) ?_
            refine AAny.take (i := 8) rfl (by kernel_rfl) (by kernel_rfl) (by kernel_rfl) (by kernel_rfl) (by kernel_rfl) (by kernel_rfl) (Gv.assign (v := _) rfl) ?_
            refine AAny.take (i := 9) rfl (by kernel_rfl) (by kernel_rfl) (by kernel_rfl) (by kernel_rfl) (by kernel_rfl) (by kernel_rfl) (Gv.assign (v := .bool _) rfl) ?_
            refine AAny.done (by kernel_rfl) ?_
            refine AWP.ret ?_
            repeat (first | refine aseqQ_ret ?_ | refine ablockQ_ret ?_)
            refine afin.t2 (x := _) (y := .bool _) rfl rfl ?_
            rw [hi]; exact optR_mk _
          · skip
            have cp : ¬ atW w 2 = phiS := cp
            have hi : instrItem w = opItem (atW w 0) (w.drop 2) := by unfold instrItem; rw [if_neg (by simp [hq]; omega), if_neg (by simp [hn]; omega), if_neg cp]
            refine AWP.skip ?_
            refine AWP.seq ?_
            refine AWP.regionDraw (fun j => false) (by kernel_rfl) rfl (Part.perm (.rest _)) ?_
            refine AAny.take (i := 0) rfl (by kernel_rfl) (by kernel_rfl) (by kernel_rfl) (by kernel_rfl) (by kernel_rfl) (by kernel_rfl) (Gv.move (v := .fro _ _) rfl) ?_
            refine AAny.take (i := 1) rfl (by kernel_rfl) (by kernel_rfl) (by kernel_rfl) (by kernel_rfl) (by kernel_rfl) (by kernel_rfl) (Gv.idxM (j := 0) Tryz.underlying62 Tryz.sizeOf9 rfl rfl rfl (atW_get (by omega))) ?_
            refine AAny.take (i := 2) rfl (by kernel_rfl) (by kernel_rfl) (by kernel_rfl) (by kernel_rfl) (by kernel_rfl) (by kernel_rfl) (Gv.load1F (c := .str _) Tryz.isAgg9 rfl) ?_
            refine AAny.take (i := 3) rfl (by kernel_rfl) (by kernel_rfl) (by kernel_rfl) (by kernel_rfl) (by kernel_rfl) (by kernel_rfl) (Gv.move (v := .fro _ _) rfl) ?_
            refine AAny.take (i := 4) rfl (by kernel_rfl) (by kernel_rfl) (by kernel_rfl) (by kernel_rfl) (by kernel_rfl) (by kernel_rfl) (Gv.cutLoM (j := 2) Tryz.underlying62 Tryz.sizeOf9 rfl rfl rfl (by omega)) ?_
            refine AAny.one (i := 5) rfl (by kernel_rfl) ?_
            refine AOps.callP (operation_spec _ (w.drop 2) (by simp; omega) (fun x hx => hs x (List.mem_of_mem_drop hx)) hL hT hV) rfl ?_
            refine AOps.nil ?_
            refine AAny.take (i := 6) rfl (by kernel_rfl) (by kernel_rfl) (by kernel_rfl) (by kernel_rfl) (by kernel_rfl) (by kernel_rfl) (Gv.extract (v := _) rfl rfl) ?_
            refine AAny.take (i := 7) rfl (by kernel_rfl) (by kernel_rfl) (by kernel_rfl) (by kernel_rfl) (by kernel_rfl) (by kernel_rfl) (Gv.extract (v := .bool _) rfl rfl) ?_
            refine AAny.take (i := 8) rfl (by kernel_rfl) (by kernel_rfl) (by kernel_rfl) (by kernel_rfl) (by kernel_rfl) (by kernel_rfl) (Gv.assign (v := _) rfl) ?_
            refine AAny.take (i := 9) rfl (by kernel_rfl) (by kernel_rfl) (by kernel_rfl) (by kernel_rfl) (by kernel_rfl) (by kernel_rfl) (Gv.assign (v := .bool _) rfl) ?_
            refine AAny.done (by kernel_rfl) ?_
            refine AWP.ret ?_
            repeat (first | refine aseqQ_ret ?_ | refine ablockQ_ret ?_)
            refine afin.t2 (x := _) (y := .bool _) rfl rfl ?_
            rw [hi]; exact optR_mk _
theorem instruction_spec (w : List ByteArray) (hl : w.length ≤ 100000) (hs : ∀ x ∈ w, x.size ≤ 100000) (hL : Letters E) (hT : Pows E) (hV : Vars0 E) :
    AFun Tryz.prog E 102 [.fro 1 (w.map encS)] (.tup [optV (instrItem w), .bool (instrItem w).isSome]) := AFun.opt (instructionR w hl hs hL hT hV)
end Go.Proofs.YtdkhlgiohpdihaaGreatDoor
