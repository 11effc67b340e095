/- Bytes put behind bytes, and read as a string; a pointer to a variable held against itself. No conditions but bounds. -/
import Derived.Test.YtdkhlgiohpdihaaGreatDoorZj
import Derived.Lib.ValidLaws
import Derived.Lib.MapLaws
import Derived.Lib.CutLaws
import Derived.Lib.IndexBytes
import Derived.Test.YtdkhlgiohpdihaaGreatDoorZf
import Derived.Lib.ParseIntBCases
import Derived.Lib.Builder
import Derived.Lib.AppendStr
import Derived.Lib.UnsafeStr
import Derived.Laws.Externs
set_option linter.unusedVariables false
set_option linter.unusedSimpArgs false
set_option linter.unusedSectionVars false
namespace Go.Proofs.YtdkhlgiohpdihaaGreatDoor
open Go.Proofs Go.Lib Go.Shelf Go.RowKit
theorem pl110 : Places Tryz.prog 110 #[(0, 1), (1, 1), (2, 1)] [.raw (.map none), .raw (.map none), .bool false] := ⟨_, _, Tryz.underlying110, Tryz.zeroValue110, fun w => by kernel_rfl, rfl⟩
theorem ps142_2 : PlacesS Tryz.prog 142 23 2 1 [.raw (.slice none 0 0), .raw (.slice none 0 0)] := ⟨_, Tryz.underlying142, Tryz.sizeOf23, Tryz.zeroValue23, by decide, by decide, by kernel_rfl⟩
theorem pl27 : Places Tryz.prog 27 #[(0, 1), (1, 1), (2, 1)] [.raw (.slice none 0 0), .raw (.slice none 0 0), .raw (.slice none 0 0)] := ⟨_, _, Tryz.underlying27, Tryz.zeroValue27, fun w => by kernel_rfl, rfl⟩
theorem ps25_1 : PlacesS Tryz.prog 25 48 1 7 [.str ⟨#[]⟩, .raw (.slice none 0 0), .raw (.slice none 0 0), .int .i64 0, .int .i64 0, .int .i64 0, .int .i64 0] := ⟨_, Tryz.underlying25, Tryz.sizeOf48, Tryz.zeroValue48, by decide, by decide, by kernel_rfl⟩
set_option maxRecDepth 20000
variable {E : World}
def putS (st : NMap × Bool) (s : ByteArray) : NMap × Bool := (mset s st.1.length st.1, st.2 || hasM st.1 s)
def putAll (st : NMap × Bool) (l : List ByteArray) : NMap × Bool := l.foldl putS st
theorem putAll_step {st : NMap × Bool} {l : List ByteArray} {k : Nat} (h : k < l.length) : putAll st (l.take (k + 1)) = putS (putAll st (l.take k)) l[k] := by
  unfold putAll; rw [List.take_succ_eq_append_getElem h, List.foldl_append]; rfl
def varNames (S : PProg) : List ByteArray := (S.params ++ S.vars).map PVar.name
def blkNames (S : PProg) : List ByteArray := (blocksOf S).map fun b => b.1.name
def vState (S : PProg) : NMap × Bool := putAll ([], false) (varNames S)
def bState (S : PProg) : NMap × Bool := putAll ([], (vState S).2) (blkNames S)
def lostP (S : PProg) : Bool := (bState S).2 || (blocksOf S).any (lostBlk (vState S).1 (bState S).1)
def parL (n k : Nat) : List Int := (List.range (min k n)).map fun i : Nat => (i : Int)
def funcP (S : PProg) : PFunc := ⟨S.params ++ S.vars, parL S.params.length (S.params ++ S.vars).length, (blocksOf S).map (blockOf (vState S).1 (bState S).1)⟩
def buildP (S : PProg) : Option PFunc := if lostP S = true then none else some (funcP S)
theorem parL_yes {n k : Nat} (h : k < n) : parL n (k + 1) = parL n k ++ [(k : Int)] := by
  unfold parL; rw [Nat.min_eq_left (by omega), Nat.min_eq_left (by omega), List.range_succ, List.map_append]; rfl
theorem parL_no {n k : Nat} (h : ¬ k < n) : parL n (k + 1) = parL n k := by
  unfold parL; rw [Nat.min_eq_right (by omega), Nat.min_eq_right (by omega)]
theorem parL_len (n k : Nat) : (parL n k).length = min k n := by unfold parL; simp
theorem blk_step {bs : List (PHead × List PItem)} {k : Nat} (h : k < bs.length) {g : PHead × List PItem → PBlock} : (((bs.take k).map g).map encBlk).flatten ++ [encBlk (g bs[k])].flatten = (((bs.take (k + 1)).map g).map encBlk).flatten := by
  rw [List.take_succ_eq_append_getElem h, List.map_append, List.map_append, List.flatten_append]; rfl
def fAV (f : PFunc) : AV := .agg (encF f)
structure BlksOk (bs : List (PHead × List PItem)) : Prop where
  len : bs.length ≤ 1000000
  each : ∀ b ∈ bs, ItemsOk b.2 ∧ b.1.tos.length ≤ 2
set_option maxHeartbeats 1000000 in
theorem buildR (S : PProg) (h1 : S.params.length ≤ 1000000) (h2 : S.vars.length ≤ 1000000) (hb : BlksOk (blocksOf S)) : ACall Tryz.prog E 20 [encP S] [] (OptG fAV (buildP S)) := by
  have hcat : lenVL [S.params, S.vars] ≤ 1000000000 := by unfold lenVL; simp; omega
  have hvl : (S.params ++ S.vars).length ≤ 2000000 := by simp; omega
  have hnl : (varNames S).length = (S.params ++ S.vars).length := by unfold varNames; simp
  have hbl := hb.len
  have hbn : (blkNames S).length = (blocksOf S).length := by unfold blkNames; simp
  obtain ⟨vs, hvs⟩ : ∃ vs, S.params ++ S.vars = vs := ⟨_, rfl⟩
  refine ACall.intro Tryz.func20 rfl (by decide) rfl ?_
  have hconc : AFun Tryz.prog E 50 [.fro 1 [[.fro 2 (S.params.map encVar)], [.fro 2 (S.vars.map encVar)]]] (.fro 2 (vs.map encVar)) := by
    have := concatV_spec (E := E) [S.params, S.vars] (by simp) hcat
    rwa [show [S.params, S.vars].flatten = vs by simp [hvs]] at this
  have hvl2 : vs.length ≤ 2000000 := by rw [← hvs]; exact hvl
  have hv : vState S = putAll ([], false) (vs.map PVar.name) := by unfold vState varNames; rw [hvs]
  have hf : funcP S = ⟨vs, parL S.params.length vs.length, (blocksOf S).map (blockOf (vState S).1 (bState S).1)⟩ := by unfold funcP; rw [hvs]
  refine AWP.seq ?_
  refine AWP.region rfl ?_
  refine AOps.boxF (cs := _) rfl rfl rfl ?_
  refine AOps.alloc (cs := [.raw (.slice none 0 0), .raw (.slice none 0 0), .raw (.slice none 0 0)]) Tryz.zeroValue27 rfl rfl ?_
  intro i2
  refine AOps.val (Gv.assign (v := .bool _) rfl) ?_
  refine AOps.nil ?_
  refine AWP.seq ?_
  refine AWP.region rfl ?_
  refine AOps.makeMap ?_
  intro b12
  refine AOps.makeMap ?_
  intro b13
  refine AOps.val (Gv.build (cps := [(0, [_]), (1, [_])]) (rs := [_, _, .bool false]) pl110 rfl rfl rfl) ?_
  refine AOps.boxO (cs := _) rfl rfl rfl rfl ?_
  intro i15
  refine AOps.val (Gv.assign (v := .po _ _) rfl) ?_
  refine AOps.nil ?_
  refine AWP.seq ?_
  refine AWP.region rfl ?_
  refine AOps.val (Gv.fieldF Tryz.underlying56 rfl Tryz.sizeOf23 (by decide) rfl rfl) ?_
  refine AOps.val (Gv.load1F (c := .fro _ _) Tryz.isAgg23 rfl) ?_
  refine AOps.val (Gv.fieldF Tryz.underlying56 rfl Tryz.sizeOf23 (by decide) rfl rfl) ?_
  refine AOps.val (Gv.load1F (c := .fro _ _) Tryz.isAgg23 rfl) ?_
  refine AOps.buildSliceFF (rows := [[_], [_]]) ps142_2 rfl rfl rfl rfl rfl ?_
  refine AOps.callP (hconc) rfl ?_
  refine AOps.val (Gv.build (cps := [(0, [_])]) (rs := [_, .raw (.slice none 0 0), .raw (.slice none 0 0)]) pl27 rfl rfl rfl) ?_
  refine AOps.alloc (cs := [.raw (.slice none 0 0), .raw (.slice none 0 0), .raw (.slice none 0 0)]) Tryz.zeroValue27 rfl rfl ?_
  intro i5
  refine AOps.storeW Tryz.sizeOf27 rfl rfl rfl rfl rfl rfl .head rfl ?_
  refine AOps.nil ?_
  refine AWP.seq ?_
  refine AWP.seq ?_
  refine AWP.region rfl ?_
  refine AOps.val (Gv.fieldO Tryz.underlying27 rfl Tryz.sizeOf23 (by decide) rfl rfl) ?_
  refine AOps.val (Gv.load1C (c := .fro _ _) Tryz.isAgg23 rfl ⟨_, .head⟩ rfl) ?_
  refine AOps.val (Gv.lenM Tryz.underlying23 rfl) ?_
  refine AOps.val (Gv.move (v := .int _ _) rfl) ?_
  refine AOps.nil ?_
  refine AWP.block ?_
  refine adoptC_wp (off := 1) (k := 1) (T := 3) (fun _ => .head) rfl ?_
  intro jpar
  refine GStep.wp (GStep.perm (Pick.perm (.tail (.tail (.tail .head))))) ?_
  refine GStep.wp (GStep.perm (Pick.perm (.tail (.tail (.tail (.tail .head)))))) ?_
  refine GStep.wp (GStep.perm (Pick.perm (.tail (.tail (.tail (.tail .head)))))) ?_
  refine GStep.wp (GStep.perm (Pick.perm (.tail (.tail (.tail (.tail (.tail .head))))))) ?_
  refine GStep.wp (GStep.perm (Pick.perm (.tail (.tail (.tail (.tail (.tail .head))))))) ?_
  refine GStep.wp (GStep.perm (Pick.perm (.tail (.tail (.tail (.tail (.tail .head))))))) ?_
  refine AWP.loop (γ := Nat × NMap × Bool × Nat) [1, 2, 4, 5, 24, 25] (fun g => [(26, .int .i64 g.1)]) (fun g => [(g.2.2.2, .grow 1 3 ((parL S.params.length g.1).map encI).flatten), (i5, .cells 27 [.fro 2 (vs.map encVar), .own g.2.2.2 (parL S.params.length g.1).length, .raw (.slice none 0 0)]), (i2, .cells 27 [.raw (.slice none 0 0), .raw (.slice none 0 0), .raw (.slice none 0 0)]), (i15, .cells 110 [mref b12, mref b13, .bool g.2.2.1]), (0, mapO b12 g.2.1), (0, mapO b13 [])]) (fun g => g.1 ≤ vs.length ∧ (g.2.1, g.2.2.1) = putAll ([], false) ((vs.map PVar.name).take g.1)) (fun g => vs.length - g.1) (0, [], false, jpar) ⟨rfl, trivial⟩ ⟨_, (.refl _), rfl⟩ (⟨Nat.zero_le _, rfl⟩) ?_
  rintro ⟨k, vm, lost, jpar⟩ ⟨hk, hst⟩
  try dsimp only at *
  refine AWP.seq ?_
  refine AWP.region rfl ?_
  refine AOps.val (Gv.lss rfl rfl) ?_
  refine AOps.nil ?_
  refine AWP.seq ?_
  refine AWP.condP rfl (fun ck => ?_) (fun ck => ?_)
  · skip
    have hk2 : k < vs.length := by omega
    have hst2 : (mset vs[k].name vm.length vm, lost || hasM vm vs[k].name) = putAll ([], false) ((vs.map PVar.name).take (k + 1)) := by
      rw [putAll_step (by simpa using hk2), ← hst, List.getElem_map]; rfl
    have hpl := parL_len S.params.length k
    refine AWP.skip ?_
    refine AWP.seq ?_
    refine AWP.block ?_
    refine AWP.seq ?_
    refine AWP.region rfl ?_
    refine AOps.val (Gv.move (v := .int _ _) rfl) ?_
    refine AOps.val (Gv.idxM Tryz.underlying23 Tryz.sizeOf38 rfl rfl rfl (List.getElem?_eq_getElem (by omega))) ?_
    refine AOps.val (Gv.loadWF Tryz.isAgg38 Tryz.sizeOf38 rfl rfl) ?_
    refine AOps.alloc (cs := [.str ⟨#[]⟩, .int .i64 0]) Tryz.zeroValue38 rfl rfl ?_
    intro i7
    refine AOps.val (Gv.assign (v := .int _ _) rfl) ?_
    refine AOps.storeW Tryz.sizeOf38 rfl rfl rfl rfl rfl rfl .head rfl ?_
    refine AOps.nil ?_
    refine AWP.seq ?_
    refine AWP.regionDraw (fun j => false) (by kernel_rfl) rfl (Part.perm (.r (.rest _))) ?_
    refine AAny.take (i := 0) rfl (by kernel_rfl) (by kernel_rfl) (by kernel_rfl) (by kernel_rfl) (by kernel_rfl) (by kernel_rfl) (Gv.move (v := .po _ _) rfl) ?_
    refine AAny.take (i := 1) rfl (by kernel_rfl) (by kernel_rfl) (by kernel_rfl) (by kernel_rfl) (by kernel_rfl) (by kernel_rfl) (Gv.move (v := .po _ _) rfl) ?_
    refine AAny.take (i := 2) rfl (by kernel_rfl) (by kernel_rfl) (by kernel_rfl) (by kernel_rfl) (by kernel_rfl) (by kernel_rfl) (Gv.nilCheckO rfl) ?_
    refine AAny.take (i := 3) rfl (by kernel_rfl) (by kernel_rfl) (by kernel_rfl) (by kernel_rfl) (by kernel_rfl) (by kernel_rfl) (Gv.fieldO Tryz.underlying110 rfl Tryz.sizeOf108 (by decide) rfl rfl) ?_
    refine AAny.take (i := 5) rfl (by kernel_rfl) (by kernel_rfl) (by kernel_rfl) (by kernel_rfl) (by kernel_rfl) (by kernel_rfl) (Gv.fieldO Tryz.underlying38 rfl Tryz.sizeOf9 (by decide) rfl rfl) ?_
    refine AAny.take (i := 6) rfl (by kernel_rfl) (by kernel_rfl) (by kernel_rfl) (by kernel_rfl) (by kernel_rfl) (by kernel_rfl) (Gv.load1C (c := .str _) Tryz.isAgg9 rfl ⟨_, .head⟩ rfl) ?_
    refine AAny.one (i := 4) rfl (by kernel_rfl) ?_
    refine AOps.val (Gv.load1C (c := mref _) Tryz.isAgg108 rfl ⟨_, (.tail (.tail (.tail .head)))⟩ rfl) ?_
    refine AOps.nil ?_
    refine AAny.one (i := 7) rfl (by kernel_rfl) ?_
    refine AOps.callA rfl (Part.perm (.r (.r (.r (.l (.l (.r (.rest _)))))))) (put_tab_spec _ vs[k].name) ?_
    rintro r38 O38 ⟨rfl, rfl⟩
    refine GStep.ops (GStep.perm (Pick.perm (.tail (.tail (.tail (.tail (.tail .head))))))) ?_
    refine GStep.ops (GStep.perm (Pick.perm (.tail (.tail .head)))) ?_
    refine GStep.ops (GStep.perm (Pick.perm (.tail (.tail .head)))) ?_
    refine GStep.ops (GStep.perm (Pick.perm (.tail (.tail (.tail (.tail (.tail .head))))))) ?_
    refine GStep.ops (GStep.perm (Pick.perm (.tail (.tail (.tail (.tail (.tail .head))))))) ?_
    refine GStep.ops (GStep.perm (Pick.perm (.tail (.tail (.tail (.tail (.tail .head))))))) ?_
    refine AOps.nil ?_
    refine AAny.done (by kernel_rfl) ?_
    refine AWP.seq ?_
    refine AWP.region rfl ?_
    refine AOps.val (Gv.move (v := .int _ _) rfl) ?_
    refine AOps.val (Gv.fieldF Tryz.underlying56 rfl Tryz.sizeOf23 (by decide) rfl rfl) ?_
    refine AOps.val (Gv.load1F (c := .fro _ _) Tryz.isAgg23 rfl) ?_
    refine AOps.val (Gv.lenM Tryz.underlying23 rfl) ?_
    refine AOps.val (Gv.lss rfl rfl) ?_
    refine AOps.nil ?_
    refine AWP.condP rfl (fun cp => ?_) (fun cp => ?_)
    · skip
      have hp2 : k < S.params.length := by simpa using cp
      refine AWP.region rfl ?_
      refine AOps.val (Gv.fieldO Tryz.underlying27 rfl Tryz.sizeOf24 (by decide) rfl rfl) ?_
      refine AOps.val (Gv.load1C (c := .own _ _) Tryz.isAgg24 rfl ⟨_, (.tail (.tail .head))⟩ rfl) ?_
      refine AOps.val (Gv.move (v := .int _ _) rfl) ?_
      refine AOps.buildSliceFF (rows := [[_]]) ps24_1 rfl rfl rfl rfl rfl ?_
      refine AOps.appendS (k := 1) Tryz.underlying24 Tryz.type3 rfl rfl rfl rfl rfl (fun _ => (.tail .head)) (by rw [grow_len (k := 1) (fun _ => rfl)]) (by decide) rfl (by show ((parL S.params.length k).length + 1) * 8 ≤ _; omega) (by show (parL S.params.length k).length + 1 ≤ _; omega) ?_
      intro i48
      refine AOps.val (Gv.fieldO Tryz.underlying27 rfl Tryz.sizeOf24 (by decide) rfl rfl) ?_
      refine AOps.storeC (l := [_]) (new := [_, _, _]) Tryz.sizeOf24 rfl rfl rfl rfl rfl rfl (.tail (.tail .head)) rfl rfl ?_
      refine AOps.nil ?_
      refine GStep.wp (GStep.perm (Pick.perm (.tail (.tail (.tail (.tail (.tail (.tail .head)))))))) ?_
      refine GStep.wp (GStep.perm (Pick.perm (.tail (.tail (.tail (.tail (.tail (.tail .head)))))))) ?_
      refine GStep.wp (GStep.perm (Pick.perm (.tail (.tail (.tail (.tail (.tail (.tail .head)))))))) ?_
      refine GStep.wp (GStep.perm (Pick.perm (.tail (.tail (.tail (.tail (.tail (.tail .head)))))))) ?_
      refine GStep.wp (GStep.perm (Pick.perm (.tail (.tail (.tail (.tail (.tail (.tail .head)))))))) ?_
      refine GStep.wp (GStep.perm (Pick.perm (.tail (.tail (.tail (.tail (.tail (.tail .head)))))))) ?_
      refine AWP.region rfl ?_
      refine AOps.val (Gv.add rfl rfl (by unfold I64; omega)) ?_
      refine AOps.val (Gv.move (v := .int _ _) rfl) ?_
      refine AOps.nil ?_
      exact ⟨(k + 1, mset vs[k].name vm.length vm, (lost || hasM vm vs[k].name), i48), ⟨rfl, rfl, rfl, rfl, rfl, rfl, trivial⟩, ⟨rfl, trivial⟩, ⟨_, (.keep (.keep (.keep (.keep (.keep (.keep (.drop (.refl _)))))))), by dsimp only; rw [parL_yes hp2, ← grow_push (enc := encI) (rfl : parL S.params.length k ++ [(k : Int)] = _), List.length_append]; rfl⟩, ⟨hk2, hst2⟩, by dsimp only; omega⟩
    · skip
      have hp2 : ¬ k < S.params.length := by simpa using cp
      refine GStep.wp (GStep.perm (Pick.perm (.tail (.tail (.tail (.tail (.tail (.tail .head)))))))) ?_
      refine GStep.wp (GStep.perm (Pick.perm (.tail (.tail (.tail (.tail (.tail (.tail .head)))))))) ?_
      refine GStep.wp (GStep.perm (Pick.perm (.tail (.tail (.tail (.tail (.tail (.tail .head)))))))) ?_
      refine GStep.wp (GStep.perm (Pick.perm (.tail (.tail (.tail (.tail (.tail (.tail .head)))))))) ?_
      refine GStep.wp (GStep.perm (Pick.perm (.tail (.tail (.tail (.tail (.tail (.tail .head)))))))) ?_
      refine GStep.wp (GStep.perm (Pick.perm (.tail (.tail (.tail (.tail (.tail (.tail .head)))))))) ?_
      refine AWP.skip ?_
      refine AWP.region rfl ?_
      refine AOps.val (Gv.add rfl rfl (by unfold I64; omega)) ?_
      refine AOps.val (Gv.move (v := .int _ _) rfl) ?_
      refine AOps.nil ?_
      exact ⟨(k + 1, mset vs[k].name vm.length vm, (lost || hasM vm vs[k].name), jpar), ⟨rfl, rfl, rfl, rfl, rfl, rfl, trivial⟩, ⟨rfl, trivial⟩, ⟨_, (.keep (.keep (.keep (.keep (.keep (.keep (.drop (.refl _)))))))), by dsimp only; rw [parL_no hp2]⟩, ⟨hk2, hst2⟩, by dsimp only; omega⟩
  · skip
    obtain rfl : k = vs.length := by omega
    rw [List.take_of_length_le (by simp), ← hv] at hst
    refine AWP.exit ?_
    refine AWP.seq ?_
    refine AWP.seq ?_
    refine AWP.region rfl ?_
    refine AOps.val (Gv.fieldF Tryz.underlying56 rfl Tryz.sizeOf54 (by decide) rfl rfl) ?_
    refine AOps.val (Gv.load1F (c := .fro _ _) Tryz.isAgg54 rfl) ?_
    refine AOps.val (Gv.lenM Tryz.underlying54 rfl) ?_
    refine AOps.val (Gv.move (v := .int _ _) rfl) ?_
    refine AOps.nil ?_
    refine AWP.block ?_
    refine AWP.loop (γ := Nat × NMap × Bool) [1, 2, 4, 5, 52, 53] (fun g => [(54, .int .i64 g.1)]) (fun g => [(jpar, .grow 1 3 ((parL S.params.length vs.length).map encI).flatten), (i5, .cells 27 [.fro 2 (vs.map encVar), .own jpar (parL S.params.length vs.length).length, .raw (.slice none 0 0)]), (i2, .cells 27 [.raw (.slice none 0 0), .raw (.slice none 0 0), .raw (.slice none 0 0)]), (i15, .cells 110 [mref b12, mref b13, .bool g.2.2]), (0, mapO b12 vm), (0, mapO b13 g.2.1)]) (fun g => g.1 ≤ (blocksOf S).length ∧ (g.2.1, g.2.2) = putAll ([], (vState S).2) ((blkNames S).take g.1)) (fun g => (blocksOf S).length - g.1) (0, [], lost) ⟨rfl, trivial⟩ ⟨_, (.refl _), rfl⟩ (⟨Nat.zero_le _, by rw [← hst]; rfl⟩) ?_
    rintro ⟨k, bm, lost⟩ ⟨hk, hst3⟩
    try dsimp only at *
    refine AWP.seq ?_
    refine AWP.region rfl ?_
    refine AOps.val (Gv.lss rfl rfl) ?_
    refine AOps.nil ?_
    refine AWP.seq ?_
    refine AWP.condP rfl (fun ck => ?_) (fun ck => ?_)
    · skip
      have hk2 : k < (blocksOf S).length := by omega
      have hst2 : (mset (blocksOf S)[k].1.name bm.length bm, lost || hasM bm (blocksOf S)[k].1.name) = putAll ([], (vState S).2) ((blkNames S).take (k + 1)) := by
        rw [putAll_step (by omega), ← hst3]; unfold blkNames; rw [List.getElem_map]; rfl
      refine AWP.skip ?_
      refine AWP.seq ?_
      refine AWP.block ?_
      refine AWP.seq ?_
      refine AWP.region rfl ?_
      refine AOps.val (Gv.idxM Tryz.underlying54 Tryz.sizeOf106 rfl rfl rfl (List.getElem?_eq_getElem (by omega))) ?_
      refine AOps.val (Gv.loadWF Tryz.isAgg106 Tryz.sizeOf106 rfl rfl) ?_
      refine AOps.alloc (cs := [.str ⟨#[]⟩, .raw (.slice none 0 0), .int .i64 0, .str ⟨#[]⟩, .raw (.slice none 0 0), .bool false]) Tryz.zeroValue106 rfl rfl ?_
      intro i9
      refine AOps.storeW Tryz.sizeOf106 rfl rfl rfl rfl rfl rfl .head rfl ?_
      refine AOps.nil ?_
      refine AWP.regionDraw (fun j => false) (by kernel_rfl) rfl (Part.perm (.r (.rest _))) ?_
      refine AAny.take (i := 0) rfl (by kernel_rfl) (by kernel_rfl) (by kernel_rfl) (by kernel_rfl) (by kernel_rfl) (by kernel_rfl) (Gv.move (v := .po _ _) rfl) ?_
      refine AAny.take (i := 1) rfl (by kernel_rfl) (by kernel_rfl) (by kernel_rfl) (by kernel_rfl) (by kernel_rfl) (by kernel_rfl) (Gv.move (v := .po _ _) rfl) ?_
      refine AAny.take (i := 2) rfl (by kernel_rfl) (by kernel_rfl) (by kernel_rfl) (by kernel_rfl) (by kernel_rfl) (by kernel_rfl) (Gv.nilCheckO rfl) ?_
      refine AAny.take (i := 3) rfl (by kernel_rfl) (by kernel_rfl) (by kernel_rfl) (by kernel_rfl) (by kernel_rfl) (by kernel_rfl) (Gv.fieldO Tryz.underlying110 rfl Tryz.sizeOf108 (by decide) rfl rfl) ?_
      refine AAny.take (i := 5) rfl (by kernel_rfl) (by kernel_rfl) (by kernel_rfl) (by kernel_rfl) (by kernel_rfl) (by kernel_rfl) (Gv.fieldO Tryz.underlying106 rfl Tryz.sizeOf9 (by decide) rfl rfl) ?_
      refine AAny.take (i := 6) rfl (by kernel_rfl) (by kernel_rfl) (by kernel_rfl) (by kernel_rfl) (by kernel_rfl) (by kernel_rfl) (Gv.load1C (c := .str _) Tryz.isAgg9 rfl ⟨_, .head⟩ rfl) ?_
      refine AAny.one (i := 4) rfl (by kernel_rfl) ?_
      refine AOps.val (Gv.load1C (c := mref _) Tryz.isAgg108 rfl ⟨_, (.tail (.tail (.tail .head)))⟩ rfl) ?_
      refine AOps.nil ?_
      refine AAny.one (i := 7) rfl (by kernel_rfl) ?_
      refine AOps.callA rfl (Part.perm (.r (.r (.r (.l (.r (.l (.rest _)))))))) (put_tab_spec _ (blocksOf S)[k].1.name) ?_
      rintro r65 O65 ⟨rfl, rfl⟩
      refine GStep.ops (GStep.perm (Pick.perm (.tail .head))) ?_
      refine GStep.ops (GStep.perm (Pick.perm (.tail (.tail (.tail (.tail (.tail .head))))))) ?_
      refine GStep.ops (GStep.perm (Pick.perm (.tail (.tail .head)))) ?_
      refine GStep.ops (GStep.perm (Pick.perm (.tail (.tail (.tail (.tail (.tail .head))))))) ?_
      refine GStep.ops (GStep.perm (Pick.perm (.tail (.tail (.tail (.tail (.tail .head))))))) ?_
      refine GStep.ops (GStep.perm (Pick.perm (.tail (.tail (.tail (.tail (.tail .head))))))) ?_
      refine AOps.nil ?_
      refine AAny.done (by kernel_rfl) ?_
      refine AWP.region rfl ?_
      refine AOps.val (Gv.add rfl rfl (by unfold I64; omega)) ?_
      refine AOps.val (Gv.move (v := .int _ _) rfl) ?_
      refine AOps.nil ?_
      exact ⟨(k + 1, mset (blocksOf S)[k].1.name bm.length bm, (lost || hasM bm (blocksOf S)[k].1.name)), ⟨rfl, rfl, rfl, rfl, rfl, rfl, trivial⟩, ⟨rfl, trivial⟩, ⟨_, (.drop (.refl _)), rfl⟩, ⟨hk2, hst2⟩, by dsimp only; omega⟩
    · skip
      obtain rfl : k = (blocksOf S).length := by omega
      rw [List.take_of_length_le (by omega)] at hst3
      have hst4 : (bm, lost) = bState S := hst3
      refine AWP.exit ?_
      refine AWP.seq ?_
      refine AWP.seq ?_
      refine AWP.region rfl ?_
      refine AOps.val (Gv.fieldF Tryz.underlying56 rfl Tryz.sizeOf54 (by decide) rfl rfl) ?_
      refine AOps.val (Gv.load1F (c := .fro _ _) Tryz.isAgg54 rfl) ?_
      refine AOps.val (Gv.lenM Tryz.underlying54 rfl) ?_
      refine AOps.val (Gv.move (v := .int _ _) rfl) ?_
      refine AOps.nil ?_
      refine AWP.block ?_
      refine adoptC_wp (off := 2) (k := 7) (T := 48) (fun _ => (.tail .head)) rfl ?_
      intro jb
      refine AWP.loop (γ := Nat × Bool × Nat) [2, 4, 5, 68, 69] (fun g => [(70, .int .i64 g.1)]) (fun g => [(g.2.2, .grow 7 48 ((((blocksOf S).take g.1).map (blockOf vm bm)).map encBlk).flatten), (jpar, .grow 1 3 ((parL S.params.length vs.length).map encI).flatten), (i5, .cells 27 [.fro 2 (vs.map encVar), .own jpar (parL S.params.length vs.length).length, .own g.2.2 g.1]), (i2, .cells 27 [.raw (.slice none 0 0), .raw (.slice none 0 0), .raw (.slice none 0 0)]), (i15, .cells 110 [mref b12, mref b13, .bool g.2.1]), (0, mapO b12 vm), (0, mapO b13 bm)]) (fun g => g.1 ≤ (blocksOf S).length ∧ g.2.1 = (lost || ((blocksOf S).take g.1).any (lostBlk vm bm))) (fun g => (blocksOf S).length - g.1) (0, lost, jb) ⟨rfl, trivial⟩ ⟨_, (.refl _), rfl⟩ (⟨Nat.zero_le _, by simp⟩) ?_
      rintro ⟨k, lo, jb⟩ ⟨hk, hlo⟩
      try dsimp only at *
      refine AWP.seq ?_
      refine AWP.region rfl ?_
      refine AOps.val (Gv.lss rfl rfl) ?_
      refine AOps.nil ?_
      refine AWP.seq ?_
      refine AWP.condP rfl (fun ck => ?_) (fun ck => ?_)
      · skip
        have hk2 : k < (blocksOf S).length := by omega
        obtain ⟨hit, hto⟩ := hb.each _ (List.getElem_mem hk2)
        have hta : (blocksOf S).take (k + 1) = (blocksOf S).take k ++ [(blocksOf S)[k]] := List.take_succ_eq_append_getElem hk2
        refine AWP.skip ?_
        refine AWP.seq ?_
        refine AWP.block ?_
        refine AWP.seq ?_
        refine AWP.region rfl ?_
        refine AOps.val (Gv.idxM Tryz.underlying54 Tryz.sizeOf106 rfl rfl rfl (List.getElem?_eq_getElem (by omega))) ?_
        refine AOps.val (Gv.loadWF Tryz.isAgg106 Tryz.sizeOf106 rfl rfl) ?_
        refine AOps.alloc (cs := [.str ⟨#[]⟩, .raw (.slice none 0 0), .int .i64 0, .str ⟨#[]⟩, .raw (.slice none 0 0), .bool false]) Tryz.zeroValue106 rfl rfl ?_
        intro i11
        refine AOps.storeW Tryz.sizeOf106 rfl rfl rfl rfl rfl rfl .head rfl ?_
        refine AOps.nil ?_
        refine AWP.regionDraw (fun j => Nat.beq j 8) (by kernel_rfl) rfl (Part.perm (.r (.l (.l (.r (.rest _)))))) ?_
        refine AAny.take (i := 0) rfl (by kernel_rfl) (by kernel_rfl) (by kernel_rfl) (by kernel_rfl) (by kernel_rfl) (by kernel_rfl) (Gv.fieldO Tryz.underlying27 rfl Tryz.sizeOf25 (by decide) rfl rfl) ?_
        refine AAny.take (i := 1) rfl (by kernel_rfl) (by kernel_rfl) (by kernel_rfl) (by kernel_rfl) (by kernel_rfl) (by kernel_rfl) (Gv.load1C (c := .own _ _) Tryz.isAgg25 rfl ⟨_, (.tail .head)⟩ rfl) ?_
        refine AAny.take (i := 2) rfl (by kernel_rfl) (by kernel_rfl) (by kernel_rfl) (by kernel_rfl) (by kernel_rfl) (by kernel_rfl) (Gv.move (v := .po _ _) rfl) ?_
        refine AAny.take (i := 3) rfl (by kernel_rfl) (by kernel_rfl) (by kernel_rfl) (by kernel_rfl) (by kernel_rfl) (by kernel_rfl) (Gv.loadWC Tryz.isAgg106 Tryz.sizeOf106 rfl ⟨_, .head⟩ rfl) ?_
        refine AAny.one (i := 4) rfl (by kernel_rfl) ?_
        refine AOps.callA rfl (Part.perm (.r (.r (.r (.l (.l (.l (.rest _)))))))) (blk_tab_spec (bv := b12) (bb := b13) (vm := vm) (bm := bm) lo (blocksOf S)[k].1 (blocksOf S)[k].2 hit hto) ?_
        rintro r78 O78 ⟨rfl, rfl⟩
        refine AOps.nil ?_
        refine AAny.one (i := 5) rfl (by kernel_rfl) ?_
        refine AOps.buildSliceFF (rows := [[_, _, _, _, _, _, _]]) ps25_1 rfl rfl rfl rfl rfl ?_
        refine AOps.nil ?_
        refine AAny.one (i := 6) rfl (by kernel_rfl) ?_
        refine AOps.appendS (k := 7) Tryz.underlying25 Tryz.type48 rfl rfl rfl rfl rfl (fun _ => (.tail (.tail (.tail .head)))) (by rw [List.map_map, grow_len (k := 7) (fun _ => rfl), List.length_take, Nat.min_eq_left hk]) (by decide) rfl (by show (k + 1) * 96 ≤ _; omega) (by show k + 1 ≤ _; omega) ?_
        intro i80
        refine AOps.nil ?_
        refine AAny.take (i := 7) rfl (by kernel_rfl) (by kernel_rfl) (by kernel_rfl) (by kernel_rfl) (by kernel_rfl) (by kernel_rfl) (Gv.fieldO Tryz.underlying27 rfl Tryz.sizeOf25 (by decide) rfl rfl) ?_
        refine AAny.writes ?_
        refine AAnyW.one (i := 8) rfl (by kernel_rfl) (by kernel_rfl) ?_
        refine AOps.storeC (l := [_]) (new := [_, _, _]) Tryz.sizeOf25 rfl rfl rfl rfl rfl rfl (.tail .head) rfl rfl ?_
        refine GStep.ops (GStep.perm (Pick.perm (.tail (.tail (.tail (.tail .head)))))) ?_
        refine GStep.ops (GStep.perm (Pick.perm (.tail (.tail (.tail (.tail .head)))))) ?_
        refine GStep.ops (GStep.perm (Pick.perm (.tail (.tail (.tail (.tail .head)))))) ?_
        refine GStep.ops (GStep.perm (Pick.perm (.tail (.tail (.tail (.tail (.tail (.tail (.tail .head))))))))) ?_
        refine GStep.ops (GStep.perm (Pick.perm (.tail (.tail (.tail (.tail (.tail .head))))))) ?_
        refine GStep.ops (GStep.perm (Pick.perm (.tail (.tail (.tail (.tail (.tail (.tail (.tail .head))))))))) ?_
        refine GStep.ops (GStep.perm (Pick.perm (.tail (.tail (.tail (.tail (.tail (.tail (.tail .head))))))))) ?_
        refine AOps.nil ?_
        refine AAnyW.done (by kernel_rfl) ?_
        refine AWP.region rfl ?_
        refine AOps.val (Gv.add rfl rfl (by unfold I64; omega)) ?_
        refine AOps.val (Gv.move (v := .int _ _) rfl) ?_
        refine AOps.nil ?_
        exact ⟨(k + 1, (lo || lostBlk vm bm ((blocksOf S)[k].1, (blocksOf S)[k].2)), i80), ⟨rfl, rfl, rfl, rfl, rfl, trivial⟩, ⟨rfl, trivial⟩, ⟨_, (.keep (.keep (.keep (.keep (.keep (.keep (.keep (.drop (.refl _))))))))), by dsimp only; rw [← blk_step hk2]; rfl⟩, ⟨hk2, by dsimp only; rw [hta, List.any_append, hlo]; simp [Bool.or_assoc]⟩, by dsimp only; omega⟩
      · skip
        obtain rfl : k = (blocksOf S).length := by omega
        rw [List.take_length] at hlo ⊢
        have e1 : vm = (vState S).1 := by rw [← hst]
        have e2 : bm = (bState S).1 := by rw [← hst4]
        have e3 : lost = (bState S).2 := by rw [← hst4]
        have hlost : lo = lostP S := by rw [hlo, e1, e2, e3]; rfl
        refine GStep.wp (GStep.knowC (off := 1) (rows := (parL S.params.length vs.length).map encI) (.tail .head) (.tail .head) rfl (by simp [encI, encVar, encPhi, encInst, encBlk]) (by decide) (by simp)) ?_
        refine GStep.wp (GStep.knowC (off := 2) (rows := ((blocksOf S).map (blockOf vm bm)).map encBlk) .head .head rfl (by intro r hr; obtain ⟨x, _, rfl⟩ := List.mem_map.1 hr; rfl) (by decide) (by simp)) ?_
        refine GStep.wp (GStep.knowP (t := 4) rfl (.tail (.tail .head))) ?_
        refine GStep.wp (GStep.knowP (t := 5) rfl .head) ?_
        refine AWP.exit ?_
        refine AWP.seq ?_
        refine AWP.regionDraw (fun j => Nat.beq j 6) (by kernel_rfl) rfl (Part.perm (.rest _)) ?_
        refine AAny.take (i := 0) rfl (by kernel_rfl) (by kernel_rfl) (by kernel_rfl) (by kernel_rfl) (by kernel_rfl) (by kernel_rfl) (Gv.loadWF Tryz.isAgg27 Tryz.sizeOf27 rfl rfl) ?_
        refine AAny.takeK (i := 1) rfl (by kernel_rfl) (by kernel_rfl) (by kernel_rfl) (by kernel_rfl) (Gv.move (v := .pf _) rfl) ?_
        refine AAny.takeK (i := 2) rfl (by kernel_rfl) (by kernel_rfl) (by kernel_rfl) (by kernel_rfl) (Gv.nilCheckF rfl) ?_
        refine AAny.takeK (i := 3) rfl (by kernel_rfl) (by kernel_rfl) (by kernel_rfl) (by kernel_rfl) (Gv.fieldF Tryz.underlying110 rfl Tryz.sizeOf4 (by decide) rfl rfl) ?_
        refine AAny.takeK (i := 4) rfl (by kernel_rfl) (by kernel_rfl) (by kernel_rfl) (by kernel_rfl) (Gv.load1F (c := .bool _) Tryz.isAgg4 rfl) ?_
        refine AAny.takeK (i := 5) rfl (by kernel_rfl) (by kernel_rfl) (by kernel_rfl) (by kernel_rfl) (Gv.not rfl) ?_
        refine AAny.writes ?_
        refine AAnyW.one (i := 6) rfl (by kernel_rfl) (by kernel_rfl) ?_
        refine AOps.storeW Tryz.sizeOf27 rfl rfl rfl rfl rfl rfl .head rfl ?_
        refine AOps.nil ?_
        refine AAnyW.one (i := 7) rfl (by kernel_rfl) (by kernel_rfl) ?_
        refine AOps.val (Gv.assign (v := .bool _) rfl) ?_
        refine AOps.nil ?_
        refine AAnyW.done (by kernel_rfl) ?_
        refine AWP.ret ?_
        repeat (first | refine aseqQ_ret ?_ | refine ablockQ_ret ?_)
        refine afin.c1t (y := .bool _) rfl rfl ⟨_, .head⟩ Tryz.isAgg27 Tryz.sizeOf27 rfl ?_
        exact optG_ret (by rw [hlost]; unfold buildP; cases lostP S <;> rfl) (fun f hf2 => by unfold buildP at hf2; rw [hf, ← e1, ← e2] at hf2; split at hf2; cases hf2; cases hf2; rfl)
theorem build_spec (S : PProg) (h1 : S.params.length ≤ 1000000) (h2 : S.vars.length ≤ 1000000) (hb : BlksOk (blocksOf S)) :
    AFun Tryz.prog E 20 [encP S] (.tup [optG fAV (buildP S), .bool (buildP S).isSome]) := AFun.optG (buildR S h1 h2 hb)
end Go.Proofs.YtdkhlgiohpdihaaGreatDoor
namespace Go.Proofs.YtdkhlgiohpdihaaGreatDoor
open Go.Proofs Go.Lib Go.Shelf Go.RowKit
set_option maxRecDepth 20000
variable {E : World}
def argsLe (N : Nat) : PItem → Prop
  | .phi _ f a => f.length ≤ N ∧ a.length ≤ N
  | .inst _ _ a _ => a.length ≤ N
theorem evens_len : ∀ w : List ByteArray, (evens w).length ≤ w.length
  | [] => Nat.le_refl _
  | [_] => Nat.zero_le _
  | _ :: _ :: l => by have := evens_len l; simp [evens]; omega
theorem odds_len : ∀ w : List ByteArray, (odds w).length ≤ w.length
  | [] => Nat.le_refl _
  | [_] => Nat.zero_le _
  | _ :: _ :: l => by have := odds_len l; simp [odds]; omega
theorem opItem_args {N : Nat} {d : ByteArray} {w : List ByteArray} {x : PItem} (hw : w.length ≤ N) (h : opItem d w = some x) : argsLe N x := by
  cases w with
  | nil => cases h
  | cons a r =>
    have hr : r.length ≤ N := by simp at hw; omega
    have h : opCons d a r = some x := h
    unfold opCons at h
    split at h
    · split at h
      · split at h
        · cases h; show (r.take _).length ≤ N; rw [List.length_take]; omega
        · cases h
      · split at h
        · cases h; exact hr
        · cases h
    · cases h
theorem instrItem_args {N : Nat} {w : List ByteArray} {x : PItem} (hw : w.length ≤ N) (h : instrItem w = some x) : argsLe N x := by
  unfold instrItem at h
  split at h
  · exact opItem_args hw h
  · split at h
    · cases h
    · split at h
      · unfold phiItem at h
        split at h
        · cases h
          have h1 := evens_len (w.drop 3)
          have h2 := odds_len (w.drop 3)
          rw [List.length_drop] at h1 h2
          exact ⟨by omega, by omega⟩
        · cases h
      · exact opItem_args (by rw [List.length_drop]; omega) h
theorem endB_tos {h h' : PHead} {w : List ByteArray} (ht : h.tos.length ≤ 2) (he : endB h w = some h') : h'.tos.length ≤ 2 := by
  unfold endB at he
  split at he
  · cases he
  · split at he
    · rename_i hc; cases he; show (w.drop 1).length ≤ 2; rw [List.length_drop]; omega
    · split at he
      · rename_i hc; cases he; show (w.drop 2).length ≤ 2; rw [List.length_drop]; omega
      · split at he
        · cases he; exact ht
        · cases he
structure BK (N n : Nat) (b : PHead × List PItem) : Prop where
  len : b.2.length ≤ n
  tos : b.1.tos.length ≤ 2
  args : ∀ x ∈ b.2, argsLe N x
theorem BK.more {N n m : Nat} {b : PHead × List PItem} (h : BK N n b) (hm : n ≤ m) : BK N m b := ⟨Nat.le_trans h.1 hm, h.2, h.3⟩
theorem BK.line {N n : Nat} {h : PHead} {it : List PItem} {w : List ByteArray} {r : PHead × List PItem} (hb : BK N n (h, it)) (hw : w.length ≤ N) (hl : lineB h it w = some r) : BK N (n + 1) r := by
  have h1 := hb.1
  unfold lineB at hl
  split at hl
  · cases hl
  · split at hl
    · rename_i h' he; cases hl; exact ⟨by simp at h1 ⊢; omega, endB_tos hb.2 he, hb.3⟩
    · split at hl
      · cases hl
      · rename_i x hx
        split at hl
        · cases hl
        · cases hl
          refine ⟨by simp at h1 ⊢; omega, hb.2, fun y hy => ?_⟩
          rcases List.mem_append.1 hy with hy | hy
          · exact hb.3 y hy
          · rw [List.mem_singleton.1 hy]; exact instrItem_args hw hx
theorem BK.new (N n : Nat) (s : ByteArray) : BK N n (newHead s, []) := ⟨Nat.zero_le _, by show ([] : List ByteArray).length ≤ 2; exact Nat.zero_le _, by simp⟩
structure PK (N n : Nat) (S : PProg) : Prop where
  cnt : (blocksOf S).length ≤ n
  each : ∀ b ∈ blocksOf S, BK N n b
theorem PK.step {N n : Nat} {S S' : PProg} {w : List ByteArray} (h : PK N n S) (hw : w.length ≤ N) (hl : lineP S w = some S') : PK N (n + 1) S' := by
  obtain ⟨params, vars, done, cur⟩ := S
  have h1 := h.1
  have h2 := h.2
  unfold lineP at hl
  cases cur with
  | none =>
    simp only [blocksOf, Option.toList, List.append_nil] at h1 h2
    simp only [lineP0] at hl
    split at hl
    · cases hl
      refine ⟨by simp [blocksOf]; omega, fun b hb => ?_⟩
      simp only [blocksOf, Option.toList] at hb
      rcases List.mem_append.1 hb with hb | hb
      · exact (h2 b hb).more (Nat.le_succ _)
      · rw [List.mem_singleton.1 hb]; exact BK.new _ _ _
    · split at hl
      · cases hl
        exact ⟨by simp [blocksOf]; omega, fun b hb => (h2 b (by simpa [blocksOf] using hb)).more (Nat.le_succ _)⟩
      · cases hl
  | some b0 =>
    simp only [blocksOf, Option.toList] at h1 h2
    simp only [lineP1] at hl
    split at hl
    · split at hl
      · cases hl
        refine ⟨by simp [blocksOf] at h1 ⊢; omega, fun b hb => ?_⟩
        simp only [blocksOf, Option.toList] at hb
        rcases List.mem_append.1 hb with hb | hb
        · exact (h2 b hb).more (Nat.le_succ _)
        · rw [List.mem_singleton.1 hb]; exact BK.new _ _ _
      · cases hl
    · cases hr : lineB b0.1 b0.2 w with
      | none => rw [hr] at hl; cases hl
      | some r =>
        rw [hr] at hl; cases hl
        refine ⟨by simp [blocksOf] at h1 ⊢; omega, fun b hb => ?_⟩
        simp only [blocksOf, Option.toList] at hb
        rcases List.mem_append.1 hb with hb | hb
        · exact (h2 b (List.mem_append_left _ hb)).more (Nat.le_succ _)
        · rw [List.mem_singleton.1 hb]; exact (h2 b0 (by simp)).line hw hr
theorem run_PK {N : Nat} : ∀ {ls : List PLine} {n : Nat} {S S' : PProg}, PK N n S → (∀ l ∈ ls, l.2.length ≤ N) → runLines S ls = some S' → PK N (n + ls.length) S' ∧ S'.vars.length ≤ S.vars.length + words ls ∧ S'.params = S.params
  | [], n, S, S', h, _, hr => by cases hr; exact ⟨h, by simp [words], rfl⟩
  | l :: ls, n, S, S', h, hw, hr => by
    rw [runLines] at hr
    cases hl : lineP S l.2 with
    | none => rw [hl] at hr; cases hr
    | some S1 =>
      rw [hl] at hr
      obtain ⟨h1, h2, h3⟩ := run_PK (h.step (hw l (.head _)) hl) (fun x hx => hw x (.tail _ hx)) hr
      obtain ⟨h4, h5⟩ := lineP_vars hl
      refine ⟨by rw [List.length_cons]; exact (by rw [show n + (ls.length + 1) = n + 1 + ls.length by omega]; exact h1), ?_, h3.trans h5⟩
      unfold words at h2 ⊢
      rw [List.map_cons, List.sum_cons]; omega
theorem readP_PK {N : Nat} {ls : List PLine} {S : PProg} (hw : ∀ l ∈ ls, l.2.length ≤ N) (h : readP ls = some S) : PK N ls.length S ∧ S.vars.length ≤ words ls ∧ S.params.length ≤ N := by
  cases ls with
  | nil => cases h
  | cons l0 rest =>
    have h : (if atW l0.2 0 = funcS then (tgt l0 rest).bind endP else none) = some S := h
    split at h
    · unfold tgt at h
      split at h
      · cases hr : runLines (start l0.2) rest with
        | none => rw [hr] at h; cases h
        | some S1 =>
          rw [hr] at h
          have hS : S1 = S := by
            have h : endP S1 = some S := h
            unfold endP at h
            cases hc : S1.cur with
            | none => rw [hc] at h; cases h
            | some b =>
              rw [hc] at h
              have h : (if b.1.ended = true then some S1 else none) = some S := h
              exact opt_eq h
          subst hS
          obtain ⟨h1, h2, h3⟩ := run_PK (N := N) (n := 0) ⟨by simp [blocksOf, start], by simp [blocksOf, start]⟩ (fun x hx => hw x (.tail _ hx)) hr
          refine ⟨⟨by have := h1.1; rw [List.length_cons]; omega, fun b hb => (h1.2 b hb).more (by rw [List.length_cons]; omega)⟩, ?_, ?_⟩
          · have : (start l0.2).vars.length = 0 := rfl
            unfold words at h2 ⊢
            rw [List.map_cons, List.sum_cons]; omega
          · rw [h3]
            have h4 := hw l0 (.head _)
            show (varsOf (l0.2.drop 1)).length ≤ N
            have h5 : (varsOf (l0.2.drop 1)).length ≤ (l0.2.drop 1).length := by
              unfold varsOf
              by_cases hv : varsOk (l0.2.drop 1) = true
              · rw [if_pos hv, List.length_map]; exact Nat.le_refl _
              · rw [if_neg hv]; exact Nat.zero_le _
            rw [List.length_drop] at h5; omega
      · cases h
    · cases h
theorem itemsN_bound {n m : Nat} : ∀ {bs : List (PHead × List PItem)}, bs.length ≤ n → (∀ b ∈ bs, b.2.length ≤ m) → itemsN bs ≤ bs.length * m
  | [], _, _ => Nat.zero_le _
  | b :: bs, h, hb => by
    have h1 := itemsN_bound (n := n) (bs := bs) (by simp at h; omega) (fun x hx => hb x (.tail _ hx))
    have h2 := hb b (.head _)
    unfold itemsN at h1 ⊢
    rw [List.map_cons, List.sum_cons, List.length_cons, Nat.add_mul]; omega
theorem PK.blks {N n : Nat} {S : PProg} (h : PK N n S) (hN : N ≤ 1000000) (hn : n ≤ 1000000) : BlksOk (blocksOf S) :=
  ⟨Nat.le_trans h.1 hn, fun b hb => ⟨⟨Nat.le_trans (h.2 b hb).1 hn, fun x hx => by
    have := (h.2 b hb).3 x hx
    cases x with
    | phi d f a => exact ⟨Nat.le_trans this.1 hN, Nat.le_trans this.2 hN⟩
    | inst op d a n => exact Nat.le_trans this hN⟩, (h.2 b hb).2⟩⟩
end Go.Proofs.YtdkhlgiohpdihaaGreatDoor
namespace Go.Proofs.YtdkhlgiohpdihaaGreatDoor
open Go.Proofs Go.Lib Go.Shelf Go.RowKit
set_option maxRecDepth 20000
variable {E : World}
theorem wdGo_ok (s : ByteArray) : ∀ (n p : Nat) (out : List ByteArray) (word : List Int), s.size - p ≤ n → (wdGo s p out word).length ≤ out.length + n ∧ ∀ x ∈ wdGo s p out word, x ∈ out ∨ x.size ≤ 4 * (word.length + n) := by
  intro n
  induction n with
  | zero =>
    intro p out word h
    rw [wdGo, dif_neg (by omega)]
    exact ⟨Nat.le_refl _, fun x hx => .inl hx⟩
  | succ n ih =>
    intro p out word h
    have hd := (decode_ok s p).1
    rw [wdGo]
    by_cases hp : p < s.size
    · rw [dif_pos hp]
      split
      · split
        · obtain ⟨h1, h2⟩ := ih (p + (Utf8.decode s p).2) out word (by omega)
          exact ⟨by omega, fun x hx => (h2 x hx).imp id (fun h => by omega)⟩
        · obtain ⟨h1, h2⟩ := ih (p + (Utf8.decode s p).2) (out ++ [runesBytes word]) [] (by omega)
          refine ⟨by simp at h1; omega, fun x hx => ?_⟩
          rcases h2 x hx with h3 | h3
          · rcases List.mem_append.1 h3 with h4 | h4
            · exact .inl h4
            · rw [List.mem_singleton.1 h4]; exact .inr (by have := runesBytes_size_le word; omega)
          · exact .inr (by simp at h3; omega)
      · obtain ⟨h1, h2⟩ := ih (p + (Utf8.decode s p).2) out (word ++ [((Utf8.decode s p).1 : Int)]) (by omega)
        exact ⟨by omega, fun x hx => (h2 x hx).imp id (fun h => by simp at h; omega)⟩
    · rw [dif_neg hp]
      exact ⟨by omega, fun x hx => .inl hx⟩
theorem scanWords_ok (s : ByteArray) : (scanWords s).length ≤ s.size + 1 ∧ ∀ x ∈ scanWords s, x.size ≤ 4 * (s.size + 1) := by
  have hc := cutA_size s hash
  have hcs : (cutA s hash ++ ⟨#[32]⟩ : ByteArray).size = (cutA s hash).size + 1 := by rw [ByteArray.size_append]; rfl
  obtain ⟨h1, h2⟩ := wdGo_ok (cutA s hash ++ ⟨#[32]⟩) (s.size + 1) 0 [] [] (by omega)
  refine ⟨by unfold scanWords; simpa using h1, fun x hx => ?_⟩
  rcases h2 x hx with h | h
  · cases h
  · simpa using h
theorem lineGo_ok : ∀ (ls : List ByteArray) (i : Nat), (lineGo ls i).length ≤ ls.length ∧ ∀ l ∈ lineGo ls i, l.2 ≠ [] ∧ ∃ p ∈ ls, l.2 = scanWords p
  | [], _ => ⟨Nat.le_refl _, by intro l hl; cases hl⟩
  | l :: ls, i => by
    obtain ⟨h1, h2⟩ := lineGo_ok ls (i + 1)
    rw [lineGo]
    split
    · exact ⟨by simp; omega, fun x hx => ⟨(h2 x hx).1, let ⟨p, hp, e⟩ := (h2 x hx).2; ⟨p, .tail _ hp, e⟩⟩⟩
    · rename_i hne
      refine ⟨by simp; omega, fun x hx => ?_⟩
      rcases List.mem_cons.1 hx with rfl | hx
      · exact ⟨hne, l, .head _, rfl⟩
      · exact ⟨(h2 x hx).1, let ⟨p, hp, e⟩ := (h2 x hx).2; ⟨p, .tail _ hp, e⟩⟩
theorem words_le {N : Nat} : ∀ {ls : List PLine}, (∀ l ∈ ls, l.2.length ≤ N) → words ls ≤ ls.length * N
  | [], _ => Nat.zero_le _
  | l :: ls, h => by
    have h1 := words_le (ls := ls) (fun x hx => h x (.tail _ hx))
    have h2 := h l (.head _)
    unfold words at h1 ⊢
    rw [List.map_cons, List.sum_cons, List.length_cons, Nat.add_mul]; omega
structure LinesOk (ls : List PLine) : Prop where
  len : ls.length ≤ 16385
  each : ∀ l ∈ ls, 0 < l.2.length ∧ l.2.length ≤ 16385 ∧ ∀ x ∈ l.2, x.size ≤ 65540
theorem linesOf_ok (s : ByteArray) : LinesOk (linesOf s) := by
  unfold linesOf
  by_cases hr : rightE s = 0
  · rw [if_pos hr]
    have hsz := rightE_size hr
    have hn : (splitL s nl).length ≤ 16385 := by have h1 := Lib.splitB_length_le nl 0 (Lib.countB s nl) s; have h2 := Lib.countB_le nl (by decide) s.size s (Nat.le_refl _); unfold splitL; omega
    obtain ⟨h1, h2⟩ := lineGo_ok (splitL s nl) 0
    refine ⟨Nat.le_trans h1 hn, fun l hl => ?_⟩
    obtain ⟨h3, p, hp, e⟩ := h2 l hl
    have hpiece : p.size ≤ 16384 := splitB_size nl 16384 _ s hsz _ hp
    obtain ⟨h4, h5⟩ := scanWords_ok p
    rw [e] at h3 ⊢
    exact ⟨List.length_pos_iff.2 h3, by omega, fun x hx => by have := h5 x hx; omega⟩
  · rw [if_neg hr]; exact ⟨Nat.zero_le _, by intro l hl; cases hl⟩
theorem LinesOk.words {ls : List PLine} (h : LinesOk ls) : Go.Proofs.YtdkhlgiohpdihaaGreatDoor.words ls ≤ 268468225 := by
  have h1 := words_le (N := 16385) (fun l hl => (h.2 l hl).2.1)
  have h2 : ls.length * 16385 ≤ 16385 * 16385 := Nat.mul_le_mul_right _ h.1
  omega
def parseC (s : ByteArray) : Int × Option PFunc :=
  if rightE s = 0 then
    match readP (linesOf s) with
    | none => (2, none)
    | some S => if fitsP S = true then (match buildP S with | none => (3, none) | some f => (0, some f)) else (4, none)
  else (rightE s, none)
def emptyF : PFunc := ⟨[], [], []⟩
theorem zparse_spec (s : ByteArray) (hs : s.size ≤ 140737488355328) (hL : Letters E) (hT : Pows E) (hV : Vars0 E) :
    AFun Tryz.prog E 7 [.str s] (.tup [.agg (encF ((parseC s).2.getD emptyF)), .int .i64 (parseC s).1]) := by
  have hlo := linesOf_ok s
  have hwd := hlo.words
  have hne : NEL (linesOf s) := fun l hl => ⟨(hlo.2 l hl).1, by have := (hlo.2 l hl).2.1; omega, fun x hx => by have := (hlo.2 l hl).2.2 x hx; omega⟩
  have hrd := read_spec (E := E) (linesOf s) (by have := hlo.1; omega) (by omega) hne hL hT hV
  refine ACall.intro Tryz.func7 rfl (by decide) rfl ?_
  refine AWP.seq ?_
  refine AWP.region rfl ?_
  refine AOps.alloc (cs := [.raw (.slice none 0 0), .raw (.slice none 0 0), .raw (.slice none 0 0)]) Tryz.zeroValue27 rfl rfl ?_
  intro i2
  refine AOps.val (Gv.assign (v := .int _ _) rfl) ?_
  refine AOps.nil ?_
  refine AWP.seq ?_
  refine AWP.region rfl ?_
  refine AOps.val (Gv.move (v := .str _) rfl) ?_
  refine AOps.callP (zlines_spec s hs hV) rfl ?_
  refine AOps.val (Gv.move (v := .tup _) rfl) ?_
  refine AOps.val (Gv.extract (v := .fro _ _) rfl rfl) ?_
  refine AOps.val (Gv.extract (v := .int _ _) rfl rfl) ?_
  refine AOps.val (Gv.assign (v := .fro _ _) rfl) ?_
  refine AOps.val (Gv.assign (v := .int _ _) rfl) ?_
  refine AOps.nil ?_
  refine AWP.seq ?_
  refine AWP.seq ?_
  refine AWP.region rfl ?_
  refine AOps.val (Gv.move (v := .int _ _) rfl) ?_
  refine AOps.val (Gv.neqI rfl rfl) ?_
  refine AOps.nil ?_
  refine AWP.cond rfl (fun c0 => ?_) (fun c0 => ?_)
  · skip
    have hr : ¬ rightE s = 0 := by simpa using c0
    have hp : parseC s = (rightE s, none) := by unfold parseC; rw [if_neg hr]
    refine AWP.seq ?_
    refine AWP.region rfl ?_
    refine AOps.val (Gv.build (cps := []) (rs := [.raw (.slice none 0 0), .raw (.slice none 0 0), .raw (.slice none 0 0)]) pl27 rfl rfl rfl) ?_
    refine AOps.val (Gv.move (v := .int _ _) rfl) ?_
    refine AOps.storeW Tryz.sizeOf27 rfl rfl rfl rfl rfl rfl .head rfl ?_
    refine AOps.val (Gv.assign (v := .int _ _) rfl) ?_
    refine AOps.nil ?_
    refine GStep.wp (GStep.impC (off := 0) .head rfl (nil_fro 2)) ?_
    refine GStep.wp (GStep.impC (off := 1) .head rfl (nil_fro 1)) ?_
    refine GStep.wp (GStep.impC (off := 2) .head rfl (nil_fro 7)) ?_
    refine AWP.ret ?_
    repeat (first | refine aseqQ_ret ?_ | refine ablockQ_ret ?_)
    refine afin.c1t (y := .int _ _) rfl rfl ⟨_, .head⟩ Tryz.isAgg27 Tryz.sizeOf27 rfl ?_
    rw [hp]; rfl
  · skip
    have hr : rightE s = 0 := by simpa using c0
    have hp0 : parseC s = (match readP (linesOf s) with
      | none => (2, none)
      | some S => if fitsP S = true then (match buildP S with | none => (3, none) | some f => (0, some f)) else (4, none)) := by unfold parseC; rw [if_pos hr]
    rcases hS : readP (linesOf s) with _ | S
    · skip
      rw [hS] at hrd hp0
      refine AWP.skip ?_
      refine AWP.seq ?_
      refine AWP.region rfl ?_
      refine AOps.val (Gv.move (v := .fro _ _) rfl) ?_
      refine AOps.callP (hrd) rfl ?_
      refine AOps.val (Gv.move (v := .tup _) rfl) ?_
      refine AOps.val (Gv.extract (v := .agg _) rfl rfl) ?_
      refine AOps.val (Gv.extract (v := .bool _) rfl rfl) ?_
      refine AOps.alloc (cs := [.raw (.slice none 0 0), .raw (.slice none 0 0), .raw (.slice none 0 0)]) Tryz.zeroValue56 rfl rfl ?_
      intro i6
      refine AOps.storeW Tryz.sizeOf56 rfl rfl rfl rfl rfl rfl .head rfl ?_
      refine AOps.val (Gv.assign (v := .bool _) rfl) ?_
      refine AOps.nil ?_
      refine AWP.seq ?_
      refine AWP.block ?_
      refine AWP.seq ?_
      refine AWP.region rfl ?_
      refine AOps.val (Gv.move (v := .bool _) rfl) ?_
      refine AOps.val (Gv.not rfl) ?_
      refine AOps.val (Gv.assign (v := .bool _) rfl) ?_
      refine AOps.nil ?_
      refine AWP.condT rfl rfl ?_
      refine AWP.seq ?_
      refine AWP.region rfl ?_
      refine AOps.val (Gv.build (cps := []) (rs := [.raw (.slice none 0 0), .raw (.slice none 0 0), .raw (.slice none 0 0)]) pl27 rfl rfl rfl) ?_
      refine AOps.storeW Tryz.sizeOf27 rfl rfl rfl rfl rfl rfl (.tail .head) rfl ?_
      refine AOps.val (Gv.assign (v := .int _ _) rfl) ?_
      refine AOps.nil ?_
      refine GStep.wp (GStep.impC (off := 0) (.tail .head) rfl (nil_fro 2)) ?_
      refine GStep.wp (GStep.impC (off := 1) (.tail .head) rfl (nil_fro 1)) ?_
      refine GStep.wp (GStep.impC (off := 2) (.tail .head) rfl (nil_fro 7)) ?_
      refine AWP.ret ?_
      repeat (first | refine aseqQ_ret ?_ | refine ablockQ_ret ?_)
      refine afin.c1t (y := .int _ _) rfl rfl ⟨_, (.tail .head)⟩ Tryz.isAgg27 Tryz.sizeOf27 rfl ?_
      rw [hp0]; rfl
    · skip
      rw [hS] at hrd hp0
      dsimp only at hp0
      obtain ⟨hpk, hpv, hpp⟩ := readP_PK (N := 16385) (fun l hl => (hlo.2 l hl).2.1) hS
      have hl1 := hlo.1
      have hbs := hpk.blks (by omega) (by omega)
      have hin := itemsN_bound (n := 16385) (m := 16385) (bs := blocksOf S) (by have := hpk.1; omega) (fun b hb => Nat.le_trans (hpk.2 b hb).1 hl1)
      have hin2 : itemsN (blocksOf S) ≤ 1000000000 := by
        have h2 : (blocksOf S).length * 16385 ≤ 16385 * 16385 := Nat.mul_le_mul_right _ (by have := hpk.1; omega)
        omega
      have hfit := fits_spec (E := E) S (by omega) (by omega) (by have := hpk.1; omega) (by omega)
      refine AWP.skip ?_
      refine AWP.seq ?_
      refine AWP.region rfl ?_
      refine AOps.val (Gv.move (v := .fro _ _) rfl) ?_
      refine AOps.callP (hrd) rfl ?_
      refine AOps.val (Gv.move (v := .tup _) rfl) ?_
      refine AOps.val (Gv.extract (v := .agg _) rfl rfl) ?_
      refine AOps.val (Gv.extract (v := .bool _) rfl rfl) ?_
      refine AOps.alloc (cs := [.raw (.slice none 0 0), .raw (.slice none 0 0), .raw (.slice none 0 0)]) Tryz.zeroValue56 rfl rfl ?_
      intro i6
      refine AOps.storeW Tryz.sizeOf56 rfl rfl rfl rfl rfl rfl .head rfl ?_
      refine AOps.val (Gv.assign (v := .bool _) rfl) ?_
      refine AOps.nil ?_
      refine AWP.seq ?_
      refine AWP.block ?_
      refine AWP.seq ?_
      refine AWP.region rfl ?_
      refine AOps.val (Gv.move (v := .bool _) rfl) ?_
      refine AOps.val (Gv.not rfl) ?_
      refine AOps.val (Gv.assign (v := .bool _) rfl) ?_
      refine AOps.nil ?_
      refine AWP.condF rfl rfl ?_
      refine AWP.seq ?_
      refine AWP.region rfl ?_
      refine AOps.val (Gv.loadWC Tryz.isAgg56 Tryz.sizeOf56 rfl ⟨_, .head⟩ rfl) ?_
      refine AOps.callP (hfit) rfl ?_
      refine AOps.val (Gv.not rfl) ?_
      refine AOps.val (Gv.assign (v := .bool _) rfl) ?_
      refine AOps.nil ?_
      refine AWP.cond rfl (fun c1 => ?_) (fun c1 => ?_)
      · skip
        have hf : ¬ fitsP S = true := by simpa using c1
        rw [if_neg hf] at hp0
        refine AWP.seq ?_
        refine AWP.region rfl ?_
        refine AOps.val (Gv.build (cps := []) (rs := [.raw (.slice none 0 0), .raw (.slice none 0 0), .raw (.slice none 0 0)]) pl27 rfl rfl rfl) ?_
        refine AOps.storeW Tryz.sizeOf27 rfl rfl rfl rfl rfl rfl (.tail .head) rfl ?_
        refine AOps.val (Gv.assign (v := .int _ _) rfl) ?_
        refine AOps.nil ?_
        refine GStep.wp (GStep.impC (off := 0) (.tail .head) rfl (nil_fro 2)) ?_
        refine GStep.wp (GStep.impC (off := 1) (.tail .head) rfl (nil_fro 1)) ?_
        refine GStep.wp (GStep.impC (off := 2) (.tail .head) rfl (nil_fro 7)) ?_
        refine AWP.ret ?_
        repeat (first | refine aseqQ_ret ?_ | refine ablockQ_ret ?_)
        refine afin.c1t (y := .int _ _) rfl rfl ⟨_, (.tail .head)⟩ Tryz.isAgg27 Tryz.sizeOf27 rfl ?_
        rw [hp0]; rfl
      · skip
        have hf : fitsP S = true := by simpa using c1
        rw [if_pos hf] at hp0
        have hvf : S.vars.length ≤ 1000000 := by unfold fitsP at hf; simp at hf; omega
        have hbd := build_spec (E := E) S (by omega) hvf hbs
        rcases hB : buildP S with _ | f
        · skip
          rw [hB] at hbd hp0
          refine AWP.skip ?_
          refine AWP.seq ?_
          refine AWP.region rfl ?_
          refine AOps.val (Gv.loadWC Tryz.isAgg56 Tryz.sizeOf56 rfl ⟨_, .head⟩ rfl) ?_
          refine AOps.callP (hbd) rfl ?_
          refine AOps.val (Gv.move (v := .tup _) rfl) ?_
          refine AOps.val (Gv.extract (v := .agg _) rfl rfl) ?_
          refine AOps.val (Gv.extract (v := .bool _) rfl rfl) ?_
          refine AOps.alloc (cs := [.raw (.slice none 0 0), .raw (.slice none 0 0), .raw (.slice none 0 0)]) Tryz.zeroValue27 rfl rfl ?_
          intro i8
          refine AOps.storeW Tryz.sizeOf27 rfl rfl rfl rfl rfl rfl .head rfl ?_
          refine AOps.val (Gv.assign (v := .bool _) rfl) ?_
          refine AOps.nil ?_
          refine AWP.seq ?_
          refine AWP.seq ?_
          refine AWP.region rfl ?_
          refine AOps.val (Gv.move (v := .bool _) rfl) ?_
          refine AOps.val (Gv.not rfl) ?_
          refine AOps.nil ?_
          refine AWP.condT rfl rfl ?_
          refine AWP.seq ?_
          refine AWP.region rfl ?_
          refine AOps.val (Gv.build (cps := []) (rs := [.raw (.slice none 0 0), .raw (.slice none 0 0), .raw (.slice none 0 0)]) pl27 rfl rfl rfl) ?_
          refine AOps.storeW Tryz.sizeOf27 rfl rfl rfl rfl rfl rfl (.tail (.tail .head)) rfl ?_
          refine AOps.val (Gv.assign (v := .int _ _) rfl) ?_
          refine AOps.nil ?_
          refine GStep.wp (GStep.impC (off := 0) (.tail (.tail .head)) rfl (nil_fro 2)) ?_
          refine GStep.wp (GStep.impC (off := 1) (.tail (.tail .head)) rfl (nil_fro 1)) ?_
          refine GStep.wp (GStep.impC (off := 2) (.tail (.tail .head)) rfl (nil_fro 7)) ?_
          refine AWP.ret ?_
          repeat (first | refine aseqQ_ret ?_ | refine ablockQ_ret ?_)
          refine afin.c1t (y := .int _ _) rfl rfl ⟨_, (.tail (.tail .head))⟩ Tryz.isAgg27 Tryz.sizeOf27 rfl ?_
          rw [hp0]; rfl
        · skip
          rw [hB] at hbd hp0
          refine AWP.skip ?_
          refine AWP.seq ?_
          refine AWP.region rfl ?_
          refine AOps.val (Gv.loadWC Tryz.isAgg56 Tryz.sizeOf56 rfl ⟨_, .head⟩ rfl) ?_
          refine AOps.callP (hbd) rfl ?_
          refine AOps.val (Gv.move (v := .tup _) rfl) ?_
          refine AOps.val (Gv.extract (v := .agg _) rfl rfl) ?_
          refine AOps.val (Gv.extract (v := .bool _) rfl rfl) ?_
          refine AOps.alloc (cs := [.raw (.slice none 0 0), .raw (.slice none 0 0), .raw (.slice none 0 0)]) Tryz.zeroValue27 rfl rfl ?_
          intro i8
          refine AOps.storeW Tryz.sizeOf27 rfl rfl rfl rfl rfl rfl .head rfl ?_
          refine AOps.val (Gv.assign (v := .bool _) rfl) ?_
          refine AOps.nil ?_
          refine AWP.seq ?_
          refine AWP.seq ?_
          refine AWP.region rfl ?_
          refine AOps.val (Gv.move (v := .bool _) rfl) ?_
          refine AOps.val (Gv.not rfl) ?_
          refine AOps.nil ?_
          refine AWP.condF rfl rfl ?_
          refine AWP.skip ?_
          refine AWP.seq ?_
          refine AWP.region rfl ?_
          refine AOps.val (Gv.loadWC Tryz.isAgg27 Tryz.sizeOf27 rfl ⟨_, .head⟩ rfl) ?_
          refine AOps.storeW Tryz.sizeOf27 rfl rfl rfl rfl rfl rfl (.tail (.tail .head)) rfl ?_
          refine AOps.val (Gv.assign (v := .int _ _) rfl) ?_
          refine AOps.nil ?_
          refine AWP.ret ?_
          repeat (first | refine aseqQ_ret ?_ | refine ablockQ_ret ?_)
          refine afin.c1t (y := .int _ _) rfl rfl ⟨_, (.tail (.tail .head))⟩ Tryz.isAgg27 Tryz.sizeOf27 rfl ?_
          rw [hp0]; rfl
end Go.Proofs.YtdkhlgiohpdihaaGreatDoor
namespace Go.Proofs.YtdkhlgiohpdihaaGreatDoor
open Go.Proofs Go.Lib Go.Shelf Go.RowKit
set_option maxRecDepth 20000
def okR (c : Int) : Prop := (0 ≤ c ∧ c < 55296) ∨ (57343 < c ∧ c ≤ 1114111)
def encs (rs : List Int) : List UInt8 := rs.flatMap encodeRune
theorem byteN {z : Int} (h0 : 0 ≤ z) (h1 : z < 256) : (z.toNat.toUInt8).toNat = z.toNat := by
  simp [Nat.toUInt8]; omega
theorem dec_enc {c : Int} (h : okR c) (post : List UInt8) : decodeL (encodeRune c ++ post) = (c.toNat, (encodeRune c).length) := by
  obtain ⟨n, rfl⟩ : ∃ n : Nat, c = n := ⟨c.toNat, by unfold okR at h; omega⟩
  have hn : n < 55296 ∨ (57343 < n ∧ n ≤ 1114111) := by unfold okR at h; omega
  rw [decodeL_N]
  unfold encodeRune
  by_cases h1 : n ≤ 127
  · rw [encodeRuneZ_one (by omega) (by omega)]
    simp only [List.map_cons, List.map_nil, List.cons_append, List.nil_append, List.getD_cons_zero]
    rw [byteN (by omega) (by omega)]
    unfold decodeN
    rw [if_pos (by omega)]; rfl
  · by_cases h2 : n ≤ 2047
    · rw [encodeRuneZ_two (by omega) (by omega)]
      simp only [List.map_cons, List.map_nil, List.cons_append, List.nil_append, List.getD_cons_zero, List.getD_cons_succ]
      rw [byteN (by omega) (by omega), byteN (by omega) (by omega)]
      unfold decodeN
      rw [if_neg (by omega), if_pos ⟨by omega, by simp, by omega⟩, if_pos (by omega)]
      exact Prod.ext (by dsimp only; omega) rfl
    · by_cases h3 : n ≤ 65535
      · rw [encodeRuneZ_three (by omega)]
        simp only [List.map_cons, List.map_nil, List.cons_append, List.nil_append, List.getD_cons_zero, List.getD_cons_succ]
        rw [byteN (by omega) (by omega), byteN (by omega) (by omega), byteN (by omega) (by omega)]
        unfold decodeN
        rw [if_neg (by omega), if_neg (by omega), if_pos ⟨by omega, ⟨by simp, by omega⟩, by simp, by omega⟩, if_pos (by omega)]
        exact Prod.ext (by dsimp only; omega) rfl
      · rw [encodeRuneZ_four (by omega) (by omega)]
        simp only [List.map_cons, List.map_nil, List.cons_append, List.nil_append, List.getD_cons_zero, List.getD_cons_succ]
        rw [byteN (by omega) (by omega), byteN (by omega) (by omega), byteN (by omega) (by omega), byteN (by omega) (by omega)]
        unfold decodeN
        rw [if_neg (by omega), if_neg (by omega), if_neg (by omega), if_pos ⟨by omega, ⟨by simp, by omega⟩, ⟨by simp, by omega⟩, by simp, by omega⟩, if_pos (by omega)]
        exact Prod.ext (by dsimp only; omega) rfl
theorem enc_len (c : Int) : 1 ≤ (encodeRune c).length := by unfold encodeRune; rw [List.length_map]; exact (encodeRuneZ_length c).1
theorem enc_ne (c : Int) (post : List UInt8) : encodeRune c ++ post ≠ [] := by
  have := enc_len c
  intro h
  have h2 := congrArg List.length h
  rw [List.length_append, List.length_nil] at h2; omega
theorem encs_cons (c : Int) (rs : List Int) : encs (c :: rs) = encodeRune c ++ encs rs := rfl
theorem encs_app (a b : List Int) : encs (a ++ b) = encs a ++ encs b := by unfold encs; rw [List.flatMap_append]
theorem valid_encs : ∀ {rs : List Int}, (∀ c ∈ rs, okR c) → validD (encs rs) = true
  | [], _ => rfl
  | c :: rs, h => by
    have hc := h c (.head _)
    rw [encs_cons, validD_step _ (enc_ne _ _), dec_enc hc]
    have hbad : ¬ (c.toNat = 65533 ∧ (encodeRune c).length = 1) := by
      rintro ⟨h1, h2⟩
      have : c = 65533 := by unfold okR at hc; omega
      subst this
      cases h2
    rw [if_neg hbad, List.drop_left]
    exact valid_encs fun x hx => h x (.tail _ hx)
theorem decN_valid (n b0 b1 b2 b3 : Nat) : okR ((decodeN n b0 b1 b2 b3).1 : Int) := by
  unfold okR decodeN
  repeat' split
  all_goals (dsimp only; omega)
theorem encs_of_valid : ∀ (n : Nat) (l : List UInt8), l.length ≤ n → validD l = true → ∃ rs, l = encs rs ∧ ∀ c ∈ rs, okR c
  | 0, l, hn, _ => ⟨[], List.eq_nil_of_length_eq_zero (by omega), by simp⟩
  | n + 1, l, hn, hv => by
    by_cases hl : l = []
    · exact ⟨[], by rw [hl]; rfl, by simp⟩
    · rw [validD_step l hl] at hv
      split at hv
      · cases hv
      · rename_i hbad
        have he := encode_decode l hl hbad
        have hw := decodeL_width l
        obtain ⟨rs, h1, h2⟩ := encs_of_valid n (l.drop (decodeL l).2) (by rw [List.length_drop]; have := List.length_pos_iff.2 hl; omega) hv
        refine ⟨((decodeL l).1 : Int) :: rs, ?_, fun c hc => ?_⟩
        · rw [encs_cons, he, ← h1, List.take_append_drop]
        · rcases List.mem_cons.1 hc with rfl | hc
          · rw [decodeL_N]; exact decN_valid _ _ _ _ _
          · exact h2 c hc
theorem enc_low {c : Int} (h : okR c) {b : UInt8} (hb : b ∈ encodeRune c) (h1 : b.toNat < 128) : c = b.toNat := by
  obtain ⟨n, rfl⟩ : ∃ n : Nat, c = n := ⟨c.toNat, by unfold okR at h; omega⟩
  have hn : n < 55296 ∨ (57343 < n ∧ n ≤ 1114111) := by unfold okR at h; omega
  unfold encodeRune at hb
  obtain ⟨z, hz, rfl⟩ := List.mem_map.1 hb
  have hzb := encodeRuneZ_byte _ z hz
  rw [byteN hzb.1 hzb.2] at h1 ⊢
  by_cases c1 : n ≤ 127
  · rw [encodeRuneZ_one (by omega) (by omega)] at hz
    simp at hz; omega
  · by_cases c2 : n ≤ 2047
    · rw [encodeRuneZ_two (by omega) (by omega)] at hz
      simp at hz; omega
    · by_cases c3 : n ≤ 65535
      · rw [encodeRuneZ_three (by omega)] at hz
        simp at hz; omega
      · rw [encodeRuneZ_four (by omega) (by omega)] at hz
        simp at hz; omega
theorem enc_ascii {c : Int} (h0 : 0 ≤ c) (h1 : c ≤ 127) : encodeRune c = [c.toNat.toUInt8] := by unfold encodeRune; rw [encodeRuneZ_one h0 h1]; rfl
theorem runes_encs {s : ByteArray} : ∀ {rs : List Int} {p : Nat}, (∀ c ∈ rs, okR c) → p ≤ s.size → s.data.toList.drop p = encs rs → runesFrom s p = rs
  | [], p, _, hp, h => by
    have hl := congrArg List.length h
    rw [List.length_drop] at hl
    have hsz : s.data.toList.length = s.size := Array.length_toList
    have : (encs []).length = 0 := rfl
    exact runesFrom_ge (by omega)
  | c :: rs, p, hc, hp, h => by
    have hsz : s.data.toList.length = s.size := Array.length_toList
    have hd : Utf8.decode s p = (c.toNat, (encodeRune c).length) := by rw [← decodeL_drop, h, encs_cons, dec_enc (hc c (.head _))]
    have hl := congrArg List.length h
    rw [List.length_drop, encs_cons, List.length_append] at hl
    have he := enc_len c
    have h0 : 0 ≤ c := by have := hc c (.head _); unfold okR at this; omega
    rw [runesFrom_lt (by omega), hd]
    dsimp only
    rw [Int.toNat_of_nonneg h0]
    congr 1
    refine runes_encs (fun x hx => hc x (.tail _ hx)) (by omega) ?_
    rw [← List.drop_drop, h, encs_cons, List.drop_left]
theorem encode_rune {c : Int} (h : okR c) : Utf8.encode c = strL (encodeRune c) := by
  obtain ⟨n, rfl⟩ : ∃ n : Nat, c = n := ⟨c.toNat, by unfold okR at h; omega⟩
  have hn : n < 55296 ∨ (57343 < n ∧ n ≤ 1114111) := by unfold okR at h; omega
  have hv : Utf8.valid (n : Int) = true := by unfold Utf8.valid; simp; omega
  unfold Utf8.encode encodeRune
  rw [if_pos hv, Int.toNat_natCast]
  dsimp only
  by_cases h1 : n ≤ 127
  · rw [if_pos (by omega), encodeRuneZ_one (by omega) (by omega)]; rfl
  · by_cases h2 : n ≤ 2047
    · rw [if_neg (by omega), if_pos (by omega), encodeRuneZ_two (by omega) (by omega)]; rfl
    · by_cases h3 : n ≤ 65535
      · rw [if_neg (by omega), if_neg (by omega), if_pos (by omega), encodeRuneZ_three (by omega)]; rfl
      · rw [if_neg (by omega), if_neg (by omega), if_neg (by omega), encodeRuneZ_four (by omega) (by omega)]; rfl
theorem runesBytes_fold : ∀ (rs : List Int) (s : ByteArray), (∀ c ∈ rs, okR c) → rs.foldl (fun r n => r ++ Utf8.encode n) s = s ++ strL (encs rs)
  | [], s, _ => by show s = s ++ strL []; exact (ByteArray.append_empty).symm
  | c :: rs, s, h => by
    rw [List.foldl_cons, runesBytes_fold rs _ (fun x hx => h x (.tail _ hx)), encode_rune (h c (.head _)), ByteArray.append_assoc, strL_app, encs_cons]
theorem runesBytes_encs {rs : List Int} (h : ∀ c ∈ rs, okR c) : runesBytes rs = strL (encs rs) := by
  unfold runesBytes; rw [runesBytes_fold rs _ h]; exact ByteArray.empty_append
theorem strL_of (s : ByteArray) : strL s.data.toList = s := by unfold strL; simp
theorem strL_inj {a b : List UInt8} (h : strL a = strL b) : a = b := by
  have := congrArg (fun s : ByteArray => s.data.toList) h
  simpa [strL] using this
theorem strL_list (a : List UInt8) : (strL a).data.toList = a := by simp [strL]
theorem idxB_none {c : UInt8} : ∀ {l : List UInt8}, c ∉ l → indexByte l c = -1
  | [], _ => rfl
  | b :: l, h => by
    have hb : ¬ b = c := fun e => h (e ▸ .head _)
    have ih := idxB_none (l := l) (fun hm => h (.tail _ hm))
    rw [indexByte, if_neg (by simpa using hb), ih]; rfl
theorem idxB_some {c : UInt8} {r : List UInt8} : ∀ {l : List UInt8}, c ∉ l → indexByte (l ++ c :: r) c = (l.length : Int)
  | [], _ => by rw [List.nil_append, indexByte, if_pos (by simp)]; rfl
  | b :: l, h => by
    have hb : ¬ b = c := fun e => h (e ▸ .head _)
    have ih := idxB_some (r := r) (l := l) (fun hm => h (.tail _ hm))
    rw [List.cons_append, indexByte, if_neg (by simpa using hb), ih, if_neg (by simp)]
    simp
theorem cutA_none {l : List UInt8} (h : (35 : UInt8) ∉ l) : cutA (strL l) hash = strL l := by
  have hi : indexB (strL l) hash = -1 := by show index (strL l).data.toList [35] = -1; rw [strL_list, index_one, idxB_none h]
  exact (cutB_miss _ _ hi).1
theorem extract_left (a b : List UInt8) : (strL (a ++ b)).extract 0 a.length = strL a := by
  rw [extract_eq]
  show strL _ = strL _
  rw [strL_list, List.drop_zero, Nat.sub_zero, List.take_left]
theorem extract_right (a b : List UInt8) : (strL (a ++ b)).extract a.length (strL (a ++ b)).size = strL b := by
  rw [extract_eq]
  show strL _ = strL _
  rw [strL_list, List.drop_left, strL_size, List.length_append, List.take_of_length_le (by omega)]
theorem cutA_some {l r : List UInt8} (h : (35 : UInt8) ∉ l) : cutA (strL (l ++ 35 :: r)) hash = strL l := by
  have hi : indexB (strL (l ++ 35 :: r)) hash = (l.length : Int) := by show index (strL (l ++ 35 :: r)).data.toList [35] = _; rw [strL_list, index_one, idxB_some h]
  exact (cutB_hit _ _ _ hi).1.trans (extract_left _ _)
theorem count_nl (l : List UInt8) : countB (strL l) nl = l.count 10 := by
  show Lib.count (strL l).data.toList [10] = _
  rw [strL_list, count_one]
theorem splitL_none {l : List UInt8} (h : (10 : UInt8) ∉ l) : splitL (strL l) nl = [strL l] := by
  have hi : indexB (strL l) nl = -1 := by show index (strL l).data.toList [10] = -1; rw [strL_list, index_one, idxB_none h]
  exact splitB_miss _ _ _ _ hi
theorem splitL_some {l r : List UInt8} (h : (10 : UInt8) ∉ l) : splitL (strL (l ++ 10 :: r)) nl = strL l :: splitL (strL r) nl := by
  have hi : indexB (strL (l ++ 10 :: r)) nl = (l.length : Int) := by show index (strL (l ++ 10 :: r)).data.toList [10] = _; rw [strL_list, index_one, idxB_some h]
  have hc : countB (strL (l ++ 10 :: r)) nl = countB (strL r) nl + 1 := by
    rw [count_nl, count_nl, List.count_append, List.count_cons_self, List.count_eq_zero_of_not_mem h, Nat.zero_add]
  unfold splitL
  rw [hc, splitB_hit _ _ _ _ _ hi, Nat.add_zero, extract_left]
  congr 1
  have : l ++ 10 :: r = (l ++ [10]) ++ r := by simp
  have h2 : l.length + nl.size = (l ++ [10]).length := by rw [List.length_append]; rfl
  rw [h2, this, extract_right]
end Go.Proofs.YtdkhlgiohpdihaaGreatDoor
namespace Go.Proofs.YtdkhlgiohpdihaaGreatDoor
open Go.Proofs Go.Lib Go.Shelf Go.RowKit
set_option maxRecDepth 20000
def wdL : List Int → List (List Int) → List Int → List (List Int)
  | [], out, _ => out
  | c :: rs, out, word => if c = 32 then (if word = [] then wdL rs out [] else wdL rs (out ++ [word]) []) else wdL rs out (word ++ [c])
def okL1 (rs : List Int) : Prop := ∀ c ∈ rs, okR c
theorem wdGo_encs {s : ByteArray} : ∀ {rs : List Int} {p : Nat} {out : List (List Int)} {word : List Int}, okL1 rs → p ≤ s.size → s.data.toList.drop p = encs rs →
    wdGo s p (out.map runesBytes) word = (wdL rs out word).map runesBytes
  | [], p, out, word, _, hp, h => by
    have hl := congrArg List.length h
    rw [List.length_drop] at hl
    have hsz : s.data.toList.length = s.size := Array.length_toList
    have : (encs []).length = 0 := rfl
    rw [wdGo, dif_neg (by omega)]; rfl
  | c :: rs, p, out, word, hc, hp, h => by
    have hsz : s.data.toList.length = s.size := Array.length_toList
    have hd : Utf8.decode s p = (c.toNat, (encodeRune c).length) := by rw [← decodeL_drop, h, encs_cons, dec_enc (hc c (.head _))]
    have hl := congrArg List.length h
    rw [List.length_drop, encs_cons, List.length_append] at hl
    have he := enc_len c
    have h0 : 0 ≤ c := by have := hc c (.head _); unfold okR at this; omega
    have hnext : s.data.toList.drop (p + (encodeRune c).length) = encs rs := by rw [← List.drop_drop, h, encs_cons, List.drop_left]
    have hrs : okL1 rs := fun x hx => hc x (.tail _ hx)
    have hle : p + (encodeRune c).length ≤ s.size := by omega
    rw [wdGo, dif_pos (by omega), hd]
    dsimp only
    rw [Int.toNat_of_nonneg h0, wdL]
    by_cases h1 : c = 32
    · rw [if_pos h1, if_pos h1]
      by_cases h2 : word = []
      · rw [if_pos h2, if_pos h2, h2]; exact wdGo_encs hrs hle hnext
      · rw [if_neg h2, if_neg h2]
        have := wdGo_encs (out := out ++ [word]) (word := []) hrs hle hnext
        rw [List.map_append] at this
        exact this
    · rw [if_neg h1, if_neg h1]; exact wdGo_encs hrs hle hnext
theorem wdL_out : ∀ (rs : List Int) (out : List (List Int)) (word : List Int), wdL rs out word = out ++ wdL rs [] word
  | [], out, _ => by simp [wdL]
  | c :: rs, out, word => by
    rw [wdL, wdL]
    split
    · split
      · exact wdL_out rs out []
      · rw [wdL_out rs (out ++ [word]) [], wdL_out rs ([] ++ [word]) []]; simp
    · exact wdL_out rs out (word ++ [c])
def cutH (rs : List Int) : List Int := rs.takeWhile (fun c => !decide (c = 35))
def lineW (rs : List Int) : List (List Int) := wdL (cutH rs ++ [32]) [] []
theorem mem_encs {b : UInt8} {rs : List Int} (h : okL1 rs) (hb : b ∈ encs rs) (h1 : b.toNat < 128) : ((b.toNat : Nat) : Int) ∈ rs := by
  unfold encs at hb
  obtain ⟨c, hc, hbc⟩ := List.mem_flatMap.1 hb
  rw [← enc_low (h c hc) hbc h1]; exact hc
theorem cutH_none : ∀ {rs : List Int}, (35 : Int) ∉ rs → cutH rs = rs
  | [], _ => rfl
  | c :: rs, h => by
    have hc : ¬ c = 35 := fun e => h (e ▸ .head _)
    unfold cutH
    rw [List.takeWhile_cons, if_pos (by simpa using hc)]
    congr 1
    exact cutH_none fun hm => h (.tail _ hm)
theorem cutH_some {r : List Int} : ∀ {l : List Int}, (35 : Int) ∉ l → cutH (l ++ 35 :: r) = l
  | [], _ => rfl
  | c :: l, h => by
    have hc : ¬ c = 35 := fun e => h (e ▸ .head _)
    unfold cutH
    rw [List.cons_append, List.takeWhile_cons, if_pos (by simpa using hc)]
    congr 1
    exact cutH_some fun hm => h (.tail _ hm)
theorem at_first (x : Int) : ∀ rs : List Int, x ∉ rs ∨ ∃ a b, rs = a ++ x :: b ∧ x ∉ a
  | [] => .inl (by simp)
  | c :: rs => by
    by_cases h : c = x
    · exact .inr ⟨[], rs, by rw [h]; rfl, by simp⟩
    · rcases at_first x rs with h1 | ⟨a, b, e, h1⟩
      · exact .inl (by simp; exact ⟨fun e => h e.symm, h1⟩)
      · exact .inr ⟨c :: a, b, by rw [e]; rfl, by simp; exact ⟨fun e => h e.symm, h1⟩⟩
theorem not_encs {x : Nat} {rs : List Int} (h : okL1 rs) (hx : x < 128) (hn : (x : Int) ∉ rs) : x.toUInt8 ∉ encs rs := fun hm => by
  have hb : (x.toUInt8).toNat = x := by simp [Nat.toUInt8]; omega
  have := mem_encs h hm (by omega)
  rw [hb] at this
  exact hn this
theorem okL1.app_l {a b : List Int} (h : okL1 (a ++ b)) : okL1 a := fun c hc => h c (List.mem_append_left _ hc)
theorem okL1.app_r {a b : List Int} (h : okL1 (a ++ b)) : okL1 b := fun c hc => h c (List.mem_append_right _ hc)
theorem okL1.cons_r {a : Int} {b : List Int} (h : okL1 (a :: b)) : okL1 b := fun c hc => h c (.tail _ hc)
theorem cutA_encs {rs : List Int} (h : okL1 rs) : cutA (strL (encs rs)) hash = strL (encs (cutH rs)) := by
  rcases at_first 35 rs with h1 | ⟨a, b, rfl, h1⟩
  · rw [cutH_none h1]; exact cutA_none (not_encs (x := 35) h (by omega) h1)
  · rw [cutH_some h1, encs_app, encs_cons, enc_ascii (by omega) (by omega)]
    exact cutA_some (not_encs (x := 35) h.app_l (by omega) h1)
theorem cutH_sub (rs : List Int) : ∀ c ∈ cutH rs, c ∈ rs := fun _ hc => (List.takeWhile_sublist _).subset hc
theorem scanWords_encs {rs : List Int} (h : okL1 rs) : scanWords (strL (encs rs)) = (lineW rs).map runesBytes := by
  unfold scanWords lineW
  rw [cutA_encs h]
  have hsp : (⟨#[32]⟩ : ByteArray) = strL (encodeRune 32) := rfl
  have hcat : strL (encs (cutH rs)) ++ (⟨#[32]⟩ : ByteArray) = strL (encs (cutH rs ++ [32])) := by rw [hsp, strL_app, encs_app]; rfl
  rw [hcat]
  have hok : okL1 (cutH rs ++ [32]) := fun c hc => by
    rcases List.mem_append.1 hc with hc | hc
    · exact h c (cutH_sub _ c hc)
    · rw [List.mem_singleton.1 hc]; exact .inl ⟨by omega, by omega⟩
  exact wdGo_encs (out := []) (word := []) hok (Nat.zero_le _) (by rw [strL_list]; rfl)
def splitR : List Int → List (List Int)
  | [] => [[]]
  | c :: rs => if c = 10 then [] :: splitR rs else match splitR rs with
    | [] => [[c]]
    | l :: ls => (c :: l) :: ls
theorem splitR_none : ∀ {rs : List Int}, (10 : Int) ∉ rs → splitR rs = [rs]
  | [], _ => rfl
  | c :: rs, h => by
    have hc : ¬ c = 10 := fun e => h (e ▸ .head _)
    rw [splitR, if_neg hc, splitR_none fun hm => h (.tail _ hm)]
theorem splitR_some {r : List Int} : ∀ {l : List Int}, (10 : Int) ∉ l → splitR (l ++ 10 :: r) = l :: splitR r
  | [], _ => by rw [List.nil_append, splitR, if_pos rfl]
  | c :: l, h => by
    have hc : ¬ c = 10 := fun e => h (e ▸ .head _)
    rw [List.cons_append, splitR, if_neg hc, splitR_some fun hm => h (.tail _ hm)]
theorem splitL_encs : ∀ (n : Nat) (rs : List Int), rs.length ≤ n → okL1 rs → splitL (strL (encs rs)) nl = (splitR rs).map fun l => strL (encs l)
  | n, rs, hn, h => by
    rcases at_first 10 rs with h1 | ⟨a, b, rfl, h1⟩
    · rw [splitR_none h1, splitL_none (not_encs (x := 10) h (by omega) h1)]; rfl
    · rw [splitR_some h1, encs_app, encs_cons, enc_ascii (by omega) (by omega)]
      have := splitL_some (r := encs b) (not_encs (x := 10) h.app_l (by omega) h1)
      refine this.trans ?_
      cases n with
      | zero => simp at hn
      | succ n => rw [splitL_encs n b (by simp at hn; omega) h.app_r.cons_r]; rfl
theorem splitR_ok : ∀ {rs : List Int}, okL1 rs → ∀ l ∈ splitR rs, okL1 l
  | [], _, l, hl => by rw [splitR] at hl; rw [List.mem_singleton.1 hl]; exact fun c hc => (by cases hc)
  | c :: rs, h, l, hl => by
    have ih := splitR_ok h.cons_r
    rw [splitR] at hl
    split at hl
    · rcases List.mem_cons.1 hl with rfl | hl
      · exact fun c hc => (by cases hc)
      · exact ih l hl
    · split at hl
      · rw [List.mem_singleton.1 hl]; exact fun x hx => h x (by rw [List.mem_singleton.1 hx]; exact .head _)
      · rename_i l0 ls he
        rcases List.mem_cons.1 hl with rfl | hl
        · intro x hx
          rcases List.mem_cons.1 hx with rfl | hx
          · exact h x (.head _)
          · exact ih l0 (by rw [he]; exact .head _) x hx
        · exact ih l (by rw [he]; exact .tail _ hl)
def textW (rs : List Int) : List (List (List Int)) := ((splitR rs).map lineW).filter fun l => !l.isEmpty
theorem lineGo_snd : ∀ (ls : List (List Int)) (i : Nat), (∀ l ∈ ls, okL1 l) → (lineGo (ls.map fun l => strL (encs l)) i).map (·.2) = ((ls.map lineW).filter fun l => !l.isEmpty).map fun l => l.map runesBytes
  | [], _, _ => rfl
  | l :: ls, i, h => by
    have ih := lineGo_snd ls (i + 1) (fun x hx => h x (.tail _ hx))
    rw [List.map_cons, lineGo, scanWords_encs (h l (.head _))]
    rw [List.map_cons, List.filter_cons]
    cases hw : lineW l with
    | nil => simpa using ih
    | cons w ws =>
      rw [if_neg (by simp), if_pos (by simp), List.map_cons, List.map_cons, ih]
      rfl
theorem scanLines_encs {rs : List Int} (h : okL1 rs) : (scanLines (strL (encs rs))).map (·.2) = (textW rs).map fun l => l.map runesBytes := by
  unfold scanLines textW
  rw [splitL_encs rs.length rs (Nat.le_refl _) h]
  exact lineGo_snd _ _ (splitR_ok h)
theorem rightE_encs {rs : List Int} (h : okL1 rs) : rightE (strL (encs rs)) = if 16384 < (encs rs).length then 4 else if rs.all lineC = true then 0 else 2 := by
  unfold rightE
  rw [strL_size, strL_list, valid_encs h, if_neg (show ¬ (true = false) by simp), runes_encs h (Nat.zero_le _) (by rw [strL_list]; rfl)]
theorem run_snd : ∀ {ls ls' : List PLine} (S : PProg), ls.map (·.2) = ls'.map (·.2) → runLines S ls = runLines S ls'
  | [], [], _, _ => rfl
  | [], _ :: _, _, h => by cases h
  | _ :: _, [], _, h => by cases h
  | l :: ls, l' :: ls', S, h => by
    simp only [List.map_cons, List.cons.injEq] at h
    rw [runLines, runLines, h.1]
    cases lineP S l'.2 with
    | none => rfl
    | some S' => exact run_snd S' h.2
theorem readP_snd {ls ls' : List PLine} (h : ls.map (·.2) = ls'.map (·.2)) : readP ls = readP ls' := by
  cases ls with
  | nil => cases ls' with
    | nil => rfl
    | cons _ _ => cases h
  | cons l ls => cases ls' with
    | nil => cases h
    | cons l' ls' =>
      simp only [List.map_cons, List.cons.injEq] at h
      show (if atW l.2 0 = funcS then (tgt l ls).bind endP else none) = (if atW l'.2 0 = funcS then (tgt l' ls').bind endP else none)
      unfold tgt
      rw [h.1, run_snd (start l'.2) h.2]
def wline (w : List ByteArray) : PLine := (0, w)
def readW (ws : List (List ByteArray)) : Option PProg := readP (ws.map wline)
theorem readP_W (ls : List PLine) : readP ls = readW (ls.map (·.2)) := readP_snd (by simp [wline, Function.comp_def])
end Go.Proofs.YtdkhlgiohpdihaaGreatDoor
namespace Go.Proofs.YtdkhlgiohpdihaaGreatDoor
open Go.Proofs Go.Lib Go.Shelf Go.RowKit
set_option maxRecDepth 20000
def wC (c : Int) : Prop := c ≠ 32 ∧ c ≠ 10 ∧ c ≠ 35 ∧ lineC c = true
structure okRs (rs : List Int) : Prop where
  ok : okL1 rs
  ne : rs ≠ []
  cs : ∀ c ∈ rs, wC c
def okW (w : ByteArray) : Prop := ∃ rs, w = strL (encs rs) ∧ okRs rs
theorem okW.app {a b : ByteArray} (ha : okW a) (hb : okW b) : okW (a ++ b) := by
  obtain ⟨ra, rfl, h1, h2, h3⟩ := ha
  obtain ⟨rb, rfl, g1, g2, g3⟩ := hb
  refine ⟨ra ++ rb, by rw [strL_app, encs_app], fun c hc => ?_, by simp [h2], fun c hc => ?_⟩
  · rcases List.mem_append.1 hc with hc | hc
    · exact h1 c hc
    · exact g1 c hc
  · rcases List.mem_append.1 hc with hc | hc
    · exact h3 c hc
    · exact g3 c hc
def asciiW (l : List UInt8) : Bool := !l.isEmpty && l.all fun b => decide (33 ≤ b.toNat) && (decide (b.toNat < 127) && !decide (b.toNat = 35))
theorem encs_ascii : ∀ {l : List UInt8}, (∀ b ∈ l, b.toNat < 128) → encs (l.map fun b => (b.toNat : Int)) = l
  | [], _ => rfl
  | b :: l, h => by
    have hb := h b (.head _)
    rw [List.map_cons, encs_cons, enc_ascii (by omega) (by omega), encs_ascii fun x hx => h x (.tail _ hx), Int.toNat_natCast]
    simp [Nat.toUInt8]
theorem okW_ascii {l : List UInt8} (h : asciiW l = true) : okW (strL l) := by
  unfold asciiW at h
  simp only [Bool.and_eq_true, List.all_eq_true, decide_eq_true_eq, Bool.not_eq_true', decide_eq_false_iff_not] at h
  obtain ⟨h1, h2⟩ := h
  refine ⟨l.map fun b => (b.toNat : Int), by rw [encs_ascii fun b hb => by have := h2 b hb; omega], fun c hc => ?_, ?_, fun c hc => ?_⟩
  · obtain ⟨b, hb, rfl⟩ := List.mem_map.1 hc
    have := h2 b hb
    exact .inl ⟨by omega, by omega⟩
  · intro e
    have : l = [] := List.map_eq_nil_iff.1 e
    subst this; cases h1
  · obtain ⟨b, hb, rfl⟩ := List.mem_map.1 hc
    have := h2 b hb
    exact ⟨by omega, by omega, by omega, by unfold lineC; simp; omega⟩
theorem okW.ne {w : ByteArray} (h : okW w) : w ≠ ⟨#[]⟩ := by
  obtain ⟨rs, rfl, h1, h2, _⟩ := h
  intro e
  have he := congrArg ByteArray.size e
  rw [strL_size] at he
  cases rs with
  | nil => exact h2 rfl
  | cons c rs => rw [encs_cons, List.length_append] at he; have := enc_len c; change _ = 0 at he; omega
def lineS (l : List ByteArray) : ByteArray := joinS l ⟨#[32]⟩
def unB : List (List ByteArray) → ByteArray
  | [] => ⟨#[]⟩
  | l :: ls => (lineS l ++ nl) ++ unB ls
def joinR : List (List Int) → List Int
  | [] => []
  | [w] => w
  | w :: ws => w ++ 32 :: joinR ws
def unR : List (List (List Int)) → List Int
  | [] => []
  | l :: ls => (joinR l ++ [10]) ++ unR ls
theorem joinR_cons {w v : List Int} {ws : List (List Int)} : joinR (w :: v :: ws) = w ++ 32 :: joinR (v :: ws) := rfl
theorem joinTail_cons (sep x : List UInt8) (r : List (List UInt8)) : Lib.joinTail sep (x :: r) = sep ++ x ++ Lib.joinTail sep r := rfl
theorem join_encs : ∀ (ws : List (List Int)), Lib.join (ws.map encs) [32] = encs (joinR ws)
  | [] => rfl
  | [w] => by rw [List.map_cons, List.map_nil, join_one]; rfl
  | w :: v :: ws => by
    have ih := join_encs (v :: ws)
    rw [List.map_cons, join_cons] at ih
    rw [List.map_cons, List.map_cons, join_cons, joinTail_cons, joinR_cons, encs_app, encs_cons, ← ih]
    rw [enc_ascii (by omega) (by omega)]
    simp
theorem lineS_encs (ws : List (List Int)) : lineS (ws.map fun w => strL (encs w)) = strL (encs (joinR ws)) := by
  unfold lineS joinS
  rw [List.map_map]
  have : (ws.map ((fun w : ByteArray => w.data.toList) ∘ fun w => strL (encs w))) = ws.map encs := List.map_congr_left fun w _ => strL_list _
  rw [this]
  show strL (Lib.join (ws.map encs) [32]) = _
  rw [join_encs]
theorem unB_encs : ∀ (ls : List (List (List Int))), unB (ls.map fun l => l.map fun w => strL (encs w)) = strL (encs (unR ls))
  | [] => rfl
  | l :: ls => by
    have hnl : nl = strL (encs [10]) := rfl
    rw [List.map_cons, unB, lineS_encs, unB_encs ls, hnl, strL_app, strL_app, unR, encs_app, encs_app]
theorem words_ex : ∀ {l : List ByteArray}, (∀ w ∈ l, okW w) → ∃ rs : List (List Int), l = rs.map (fun w => strL (encs w)) ∧ ∀ r ∈ rs, okRs r
  | [], _ => ⟨[], rfl, by simp⟩
  | w :: l, h => by
    obtain ⟨r, e, hr⟩ := h w (.head _)
    obtain ⟨rs, e2, hrs⟩ := words_ex fun x hx => h x (.tail _ hx)
    refine ⟨r :: rs, by rw [e, e2]; rfl, fun x hx => ?_⟩
    rcases List.mem_cons.1 hx with rfl | hx
    · exact hr
    · exact hrs x hx
theorem lines_ex : ∀ {ls : List (List ByteArray)}, (∀ l ∈ ls, l ≠ [] ∧ ∀ w ∈ l, okW w) → ∃ rs : List (List (List Int)), ls = rs.map (fun l => l.map fun w => strL (encs w)) ∧ ∀ l ∈ rs, l ≠ [] ∧ ∀ r ∈ l, okRs r
  | [], _ => ⟨[], rfl, by simp⟩
  | l :: ls, h => by
    obtain ⟨hne, hw⟩ := h l (.head _)
    obtain ⟨r, e, hr⟩ := words_ex hw
    obtain ⟨rs, e2, hrs⟩ := lines_ex fun x hx => h x (.tail _ hx)
    refine ⟨r :: rs, by rw [e2, e]; rfl, fun x hx => ?_⟩
    rcases List.mem_cons.1 hx with rfl | hx
    · exact ⟨fun e3 => by subst e3; exact hne e, hr⟩
    · exact hrs x hx
theorem joinR_mem : ∀ {ws : List (List Int)} {c : Int}, c ∈ joinR ws → c = 32 ∨ ∃ w ∈ ws, c ∈ w
  | [], c, h => by cases h
  | [w], c, h => .inr ⟨w, .head _, h⟩
  | w :: v :: ws, c, h => by
    rw [joinR_cons] at h
    rcases List.mem_append.1 h with h | h
    · exact .inr ⟨w, .head _, h⟩
    · rcases List.mem_cons.1 h with h | h
      · exact .inl h
      · rcases joinR_mem h with h | ⟨x, hx, h⟩
        · exact .inl h
        · exact .inr ⟨x, .tail _ hx, h⟩
theorem wdL_word : ∀ {w : List Int} (rest : List Int) (cur : List Int), (∀ c ∈ w, c ≠ 32) → wdL (w ++ rest) [] cur = wdL rest [] (cur ++ w)
  | [], rest, cur, _ => by simp
  | c :: w, rest, cur, h => by
    rw [List.cons_append, wdL, if_neg (h c (.head _)), wdL_word rest (cur ++ [c]) fun x hx => h x (.tail _ hx)]
    simp
theorem wdL_end {w : List Int} (rest : List Int) (hne : w ≠ []) (h : ∀ c ∈ w, c ≠ 32) : wdL (w ++ 32 :: rest) [] [] = w :: wdL rest [] [] := by
  rw [wdL_word _ _ h, List.nil_append, wdL, if_pos rfl, if_neg hne, wdL_out]; rfl
theorem wdL_join : ∀ {ws : List (List Int)}, (∀ w ∈ ws, okRs w) → wdL (joinR ws ++ [32]) [] [] = ws
  | [], _ => by rw [joinR, List.nil_append, wdL, if_pos rfl, if_pos rfl]; rfl
  | [w], h => by
    have hw := h w (.head _)
    rw [joinR, wdL_end [] hw.2 (fun c hc => (hw.3 c hc).1)]; rfl
  | w :: v :: ws, h => by
    have hw := h w (.head _)
    rw [joinR_cons, List.append_assoc, List.cons_append, wdL_end _ hw.2 (fun c hc => (hw.3 c hc).1), wdL_join fun x hx => h x (.tail _ hx)]
theorem lineW_join {ws : List (List Int)} (h : ∀ w ∈ ws, okRs w) : lineW (joinR ws) = ws := by
  unfold lineW
  rw [cutH_none, wdL_join h]
  intro hm
  rcases joinR_mem hm with h1 | ⟨w, hw, h1⟩
  · omega
  · exact ((h w hw).3 _ h1).2.2.1 rfl
theorem splitR_un : ∀ {ls : List (List (List Int))}, (∀ l ∈ ls, ∀ r ∈ l, okRs r) → splitR (unR ls) = ls.map joinR ++ [[]]
  | [], _ => rfl
  | l :: ls, h => by
    have hn : (10 : Int) ∉ joinR l := fun hm => by
      rcases joinR_mem hm with h1 | ⟨w, hw, h1⟩
      · omega
      · exact ((h l (.head _) w hw).3 _ h1).2.1 rfl
    rw [unR, List.append_assoc, List.singleton_append, splitR_some hn, splitR_un fun x hx => h x (.tail _ hx)]; rfl
theorem textW_un {ls : List (List (List Int))} (h : ∀ l ∈ ls, l ≠ [] ∧ ∀ r ∈ l, okRs r) : textW (unR ls) = ls := by
  unfold textW
  rw [splitR_un fun l hl => (h l hl).2, List.map_append, List.map_map, List.filter_append]
  have h1 : ls.map (lineW ∘ joinR) = ls := by
    conv => rhs; rw [← List.map_id ls]
    exact List.map_congr_left fun l hl => lineW_join (h l hl).2
  rw [h1]
  have h2 : ls.filter (fun l => !l.isEmpty) = ls := List.filter_eq_self.2 fun l hl => by have := (h l hl).1; cases l <;> simp_all
  rw [h2]
  simp [lineW, cutH, wdL]
theorem joinR_ok {ws : List (List Int)} (h : ∀ w ∈ ws, okRs w) : okL1 (joinR ws) ∧ ∀ c ∈ joinR ws, lineC c = true := by
  constructor
  · intro c hc
    rcases joinR_mem hc with h1 | ⟨w, hw, h1⟩
    · rw [h1]; exact .inl ⟨by omega, by omega⟩
    · exact (h w hw).1 c h1
  · intro c hc
    rcases joinR_mem hc with h1 | ⟨w, hw, h1⟩
    · rw [h1]; decide
    · exact ((h w hw).3 c h1).2.2.2
theorem unR_ok : ∀ {ls : List (List (List Int))}, (∀ l ∈ ls, ∀ r ∈ l, okRs r) → okL1 (unR ls) ∧ (unR ls).all lineC = true
  | [], _ => ⟨fun c hc => (by cases hc), rfl⟩
  | l :: ls, h => by
    obtain ⟨h1, h2⟩ := joinR_ok (h l (.head _))
    obtain ⟨h3, h4⟩ := unR_ok (ls := ls) fun x hx => h x (.tail _ hx)
    rw [unR]
    constructor
    · intro c hc
      rcases List.mem_append.1 hc with hc | hc
      · rcases List.mem_append.1 hc with hc | hc
        · exact h1 c hc
        · rw [List.mem_singleton.1 hc]; exact .inl ⟨by omega, by omega⟩
      · exact h3 c hc
    · rw [List.all_append, List.all_append, h4, List.all_eq_true.2 h2]; decide
theorem un_lines {ls : List (List ByteArray)} (h : ∀ l ∈ ls, l ≠ [] ∧ ∀ w ∈ l, okW w) (hsz : (unB ls).size ≤ 16384) : rightE (unB ls) = 0 ∧ (linesOf (unB ls)).map (·.2) = ls := by
  obtain ⟨rs, rfl, hrs⟩ := lines_ex h
  obtain ⟨h1, h2⟩ := unR_ok fun l hl => (hrs l hl).2
  rw [unB_encs] at hsz ⊢
  rw [strL_size] at hsz
  have hr : rightE (strL (encs (unR rs))) = 0 := by rw [rightE_encs h1, if_neg (by omega), if_pos h2]
  refine ⟨hr, ?_⟩
  unfold linesOf
  rw [if_pos hr, scanLines_encs h1, textW_un hrs]
  exact List.map_congr_left fun l hl => List.map_congr_left fun w hw => runesBytes_encs ((hrs l hl).2 w hw).1
theorem parseU_dec : ∀ (n u : Nat), u ≤ n → u ≤ 18446744073709551615 → ∀ r, parseUintM (2 ^ 64 - 1) 0 (decDigits u ++ r) = parseUintM (2 ^ 64 - 1) u r := by
  intro n
  induction n with
  | zero =>
    intro u h _ r
    obtain rfl : u = 0 := by omega
    rw [decDigits, dif_pos (by omega), List.singleton_append, parseUintM]
    rfl
  | succ n ih =>
    intro u h hu r
    have hb : ∀ d : Nat, d < 10 → (UInt8.ofNat (48 + d)).toNat = 48 + d := fun d hd => by rw [UInt8.toNat_ofNat']; omega
    rw [decDigits]
    by_cases h10 : u < 10
    · rw [dif_pos h10, List.singleton_append, parseUintM, hb u h10, if_pos (by omega), if_neg (by omega), if_neg (by omega)]
      congr 1; omega
    · rw [dif_neg h10, List.append_assoc, ih (u / 10) (by omega) (by omega), List.singleton_append, parseUintM, hb (u % 10) (by omega), if_pos (by omega), if_neg (by omega), if_neg (by omega)]
      congr 1; omega
theorem dec_ne (u : Nat) : ∃ c r, decDigits u = c :: r ∧ 48 ≤ c.toNat ∧ c.toNat ≤ 57 := by
  have key : ∀ n u, u ≤ n → ∃ c r, decDigits u = c :: r ∧ 48 ≤ c.toNat ∧ c.toNat ≤ 57 := by
    intro n
    induction n with
    | zero => intro u h; obtain rfl : u = 0 := by omega
              exact ⟨48, [], by rw [decDigits, dif_pos (by omega)]; rfl, by decide, by decide⟩
    | succ n ih =>
      intro u h
      rw [decDigits]
      by_cases h10 : u < 10
      · rw [dif_pos h10]
        have : (UInt8.ofNat (48 + u)).toNat = 48 + u := by rw [UInt8.toNat_ofNat']; omega
        exact ⟨_, _, rfl, by omega, by omega⟩
      · rw [dif_neg h10]
        obtain ⟨c, r, e, h1, h2⟩ := ih (u / 10) (by omega)
        rw [e]; exact ⟨c, _, rfl, h1, h2⟩
  exact key u u (Nat.le_refl _)
theorem pint_itoa {n : Int} (h : -9223372036854775808 ≤ n ∧ n ≤ 9223372036854775807) : pint (strL (itoa n)) = some n := by
  have hu : ∀ u : Nat, u ≤ 18446744073709551615 → parseUintB 64 (decDigits u) = .ok u := fun u hu => by
    obtain ⟨c, r, e, _⟩ := dec_ne u
    unfold parseUintB
    rw [if_neg (by rw [e]; simp)]
    have := parseU_dec u u (Nat.le_refl _) hu []
    rw [List.append_nil] at this
    rw [this]; rfl
  unfold pint
  rw [strL_list]
  unfold itoa
  by_cases h0 : n < 0
  · rw [if_pos h0, parseIntB_minus, hu _ (by omega)]
    have hc : signedC (2 ^ (64 - 1)) (.ok n.natAbs) = .ok (-(n.natAbs : Int)) := by
      show (if 2 ^ (64 - 1) < n.natAbs then NumEnd.range else NumEnd.ok (-(n.natAbs : Int))) = _
      rw [if_neg (by have : (2 ^ (64 - 1) : Nat) = 9223372036854775808 := by decide
                     omega)]
    rw [hc]
    show some (-(n.natAbs : Int)) = some n
    congr 1; omega
  · rw [if_neg h0]
    obtain ⟨c, r, e, h1, h2⟩ := dec_ne n.toNat
    rw [e, parseIntB_plain _ _ _ (by omega) (by omega), ← e, hu _ (by omega)]
    have hc : signlessC (2 ^ (64 - 1)) (.ok n.toNat) = .ok (n.toNat : Int) := by
      show (if 2 ^ (64 - 1) ≤ n.toNat then NumEnd.range else NumEnd.ok (n.toNat : Int)) = _
      rw [if_neg (by have : (2 ^ (64 - 1) : Nat) = 9223372036854775808 := by decide
                     omega)]
    rw [hc]
    show some (n.toNat : Int) = some n
    congr 1; omega
end Go.Proofs.YtdkhlgiohpdihaaGreatDoor
namespace Go.Proofs.YtdkhlgiohpdihaaGreatDoor
open Go.Proofs Go.Lib Go.Shelf Go.RowKit
set_option maxRecDepth 20000
def nameR : List Int → Bool
  | [] => false
  | c :: rs => letterC c && (rs.all innerC && decide (rs.length + 1 ≤ 16))
theorem letter_inner {c : Int} (h : letterC c = true) : innerC c = true := by unfold innerC; rw [h]; rfl
theorem nmGo_pos (s : ByteArray) : ∀ (n p : Nat), s.size - p ≤ n → 0 < p → p ≤ s.size → nmGo s p = ((runesFrom s p).all innerC && decide ((runesFrom s 0).length ≤ 16)) := by
  intro n
  induction n with
  | zero =>
    intro p h hp hps
    have hne : ¬ s = ⟨#[]⟩ := fun e => by subst e; have : p ≤ 0 := hps; omega
    rw [nmGo, dif_neg (by omega), runesFrom_ge (p := p) (by omega)]
    simp [hne]; omega
  | succ n ih =>
    intro p h hp hps
    by_cases hlt : p < s.size
    · have hd := (decode_ok s p).1
      have hw : p + (Utf8.decode s p).2 ≤ s.size := by
        have := decodeL_le (s.data.toList.drop p) (by intro e; have := congrArg List.length e; rw [List.length_drop] at this; have h2 : s.data.toList.length = s.size := Array.length_toList; simp only [List.length_nil] at this; omega)
        rw [decodeL_drop, List.length_drop] at this
        have h2 : s.data.toList.length = s.size := Array.length_toList
        omega
      rw [nmGo, dif_pos hlt, runesFrom_lt hlt, List.all_cons]
      have hp0 : decide (p = 0) = false := decide_eq_false (by omega)
      rw [hp0, Bool.false_and, Bool.false_or]
      cases hi : innerC ((Utf8.decode s p).1 : Int) with
      | false => simp
      | true => rw [if_neg (by simp), ih _ (by omega) (by omega) hw]; simp
    · have hne : ¬ s = ⟨#[]⟩ := fun e => by subst e; have : p ≤ 0 := hps; omega
      rw [nmGo, dif_neg hlt, runesFrom_ge (p := p) hlt]
      simp [hne]; omega
theorem step_le {s : ByteArray} {p : Nat} (hlt : p < s.size) : p + (Utf8.decode s p).2 ≤ s.size := by
  have h2 : s.data.toList.length = s.size := Array.length_toList
  have := decodeL_le (s.data.toList.drop p) (by intro e; have := congrArg List.length e; rw [List.length_drop] at this; simp only [List.length_nil] at this; omega)
  rw [decodeL_drop, List.length_drop] at this
  omega
theorem scanName_R (s : ByteArray) : scanName s = nameR (runesFrom s 0) := by
  unfold scanName
  by_cases hlt : 0 < s.size
  · have hd := (decode_ok s 0).1
    have hw := step_le hlt
    have hr := runesFrom_lt hlt
    have hl := congrArg List.length hr
    rw [List.length_cons] at hl
    rw [nmGo, dif_pos hlt]
    have h2 : nameR (runesFrom s 0) = (letterC ((Utf8.decode s 0).1 : Int) && ((runesFrom s (0 + (Utf8.decode s 0).2)).all innerC && decide ((runesFrom s (0 + (Utf8.decode s 0).2)).length + 1 ≤ 16))) := by rw [hr]; rfl
    rw [h2]
    cases hc : letterC ((Utf8.decode s 0).1 : Int) with
    | false => simp
    | true =>
      rw [letter_inner hc, if_neg (by simp), nmGo_pos s _ _ (Nat.le_refl _) (by omega) hw, hl]; rfl
  · rw [nmGo, dif_neg hlt, runesFrom_ge hlt]
    have : s = ⟨#[]⟩ := by
      have h2 : s.data.toList.length = s.size := Array.length_toList
      have h3 : s.data.toList = [] := List.eq_nil_of_length_eq_zero (by omega)
      rw [← strL_of s, h3]; rfl
    simp [this, nameR]
theorem cnt_end (k : Nat) : (decide ((1 : Int) ≤ ((k + 1 : Nat) : Int)) && decide (((k + 1 : Nat) : Int) ≤ 16)) = (([] : List Int).all innerC && decide (k + 1 + ([] : List Int).length ≤ 16)) := by
  rw [decide_eq_true (by omega), Bool.true_and]
  show _ = (true && _)
  rw [Bool.true_and, decide_eq_decide]
  show ((k + 1 : Nat) : Int) ≤ 16 ↔ k + 1 + 0 ≤ 16
  omega
theorem nameFrom_pos (s : ByteArray) : ∀ (n p k : Nat), s.size - p ≤ n → nameFrom s p (k + 1) = ((runesFrom s p).all innerC && decide (k + 1 + (runesFrom s p).length ≤ 16)) := by
  intro n
  induction n with
  | zero =>
    intro p k h
    rw [nameFrom, dif_neg (by omega), runesFrom_ge (by omega)]
    exact cnt_end k
  | succ n ih =>
    intro p k h
    by_cases hlt : p < s.size
    · have hd := (decode_ok s p).1
      rw [nameFrom, dif_pos hlt, runesFrom_lt hlt, List.all_cons]
      have ho : okRune ((Utf8.decode s p).1 : Int) (k + 1) = innerC ((Utf8.decode s p).1 : Int) := by
        unfold okRune innerC letterC digitC
        have : decide (((k + 1 : Nat) : Int) = 0) = false := decide_eq_false (by omega)
        rw [this]; simp [Bool.or_assoc]
      rw [ho]
      cases hi : innerC ((Utf8.decode s p).1 : Int) with
      | false => simp
      | true => rw [if_pos rfl, ih _ _ (by omega), Bool.true_and, List.length_cons]; congr 2; simp; omega
    · rw [nameFrom, dif_neg hlt, runesFrom_ge hlt]
      exact cnt_end k
theorem nameB_R (s : ByteArray) : nameB s = nameR (runesFrom s 0) := by
  unfold nameB
  by_cases hlt : 0 < s.size
  · rw [nameFrom, dif_pos hlt, runesFrom_lt hlt]
    have ho : okRune ((Utf8.decode s 0).1 : Int) 0 = letterC ((Utf8.decode s 0).1 : Int) := by unfold okRune letterC; simp
    rw [ho]
    show _ = (letterC ((Utf8.decode s 0).1 : Int) && _)
    cases hc : letterC ((Utf8.decode s 0).1 : Int) with
    | false => simp
    | true => rw [if_pos rfl, nameFrom_pos s _ _ _ (Nat.le_refl _), Bool.true_and]; congr 2; simp; omega
  · rw [nameFrom, dif_neg hlt, runesFrom_ge hlt]; rfl
theorem name_eq (s : ByteArray) : nameB s = scanName s := by rw [nameB_R, scanName_R]
theorem valid_runes (s : ByteArray) : ∀ (n p : Nat), s.size - p ≤ n → (∀ r ∈ runesFrom s p, r ≠ 65533) → validD (s.data.toList.drop p) = true := by
  have h2 : s.data.toList.length = s.size := Array.length_toList
  intro n
  induction n with
  | zero => intro p h _; rw [List.drop_eq_nil_of_le (by omega)]; rfl
  | succ n ih =>
    intro p h hr
    by_cases hlt : p < s.size
    · have hd := (decode_ok s p).1
      rw [runesFrom_lt hlt] at hr
      have hne : s.data.toList.drop p ≠ [] := fun e => by have := congrArg List.length e; rw [List.length_drop] at this; simp only [List.length_nil] at this; omega
      rw [validD_step _ hne, decodeL_drop, if_neg (by rintro ⟨h3, _⟩; exact hr _ (.head _) (by rw [h3]; rfl)), List.drop_drop]
      exact ih _ (by omega) fun r hm => hr r (.tail _ hm)
    · rw [List.drop_eq_nil_of_le (by omega)]; rfl
theorem low_letters : ∀ n : Nat, n < 65 → isLetterU (n : Int) = false := by decide
theorem inner_ge {c : Int} (h0 : 0 ≤ c) (h : innerC c = true) : (65 ≤ c ∨ (48 ≤ c ∧ c ≤ 57) ∨ c = 46) ∧ c ≠ 65533 := by
  unfold innerC at h
  have hl : letterC c = true → 65 ≤ c ∧ c ≠ 65533 := fun h1 => by
    unfold letterC at h1
    simp only [Bool.and_eq_true, Bool.not_eq_true', decide_eq_false_iff_not] at h1
    refine ⟨?_, h1.2⟩
    rcases Int.lt_or_le c 65 with h2 | h2
    · obtain ⟨n, rfl⟩ : ∃ n : Nat, c = n := ⟨c.toNat, by omega⟩
      rw [low_letters n (by omega)] at h1
      cases h1.1
    · exact h2
  rcases Bool.or_eq_true_iff.1 h with h1 | h1
  · have := hl h1; omega
  · unfold digitC at h1; simp at h1; omega
theorem name_runes {s : ByteArray} (h : scanName s = true) : ∃ rs, s = strL (encs rs) ∧ okL1 rs ∧ rs ≠ [] ∧ ∀ c ∈ rs, 0 ≤ c ∧ (65 ≤ c ∨ (48 ≤ c ∧ c ≤ 57) ∨ c = 46) := by
  rw [scanName_R] at h
  have hin : ∀ r ∈ runesFrom s 0, innerC r = true := by
    cases hr : runesFrom s 0 with
    | nil => simp
    | cons c rs =>
      rw [hr] at h
      unfold nameR at h
      simp only [Bool.and_eq_true, List.all_eq_true] at h
      intro r hm
      rcases List.mem_cons.1 hm with rfl | hm
      · exact letter_inner h.1
      · exact h.2.1 r hm
  have hpos : ∀ (n p : Nat), s.size - p ≤ n → ∀ r ∈ runesFrom s p, 0 ≤ r := by
    intro n
    induction n with
    | zero => intro p hp r hm; rw [runesFrom_ge (by omega)] at hm; cases hm
    | succ n ih =>
      intro p hp r hm
      by_cases hlt : p < s.size
      · have hd := (decode_ok s p).1
        rw [runesFrom_lt hlt] at hm
        rcases List.mem_cons.1 hm with rfl | hm
        · omega
        · exact ih _ (by omega) r hm
      · rw [runesFrom_ge hlt] at hm; cases hm
  have hp := hpos _ 0 (Nat.le_refl _)
  have hv := valid_runes s _ 0 (Nat.le_refl _) fun r hm => (inner_ge (hp r hm) (hin r hm)).2
  rw [List.drop_zero] at hv
  obtain ⟨rs, h1, h2⟩ := encs_of_valid _ _ (Nat.le_refl _) hv
  have hrs : runesFrom s 0 = rs := runes_encs h2 (Nat.zero_le _) (by rw [List.drop_zero]; exact h1)
  refine ⟨rs, by rw [← h1, strL_of], h2, ?_, fun c hc => ?_⟩
  · intro e; rw [hrs, e] at h; cases h
  · rw [hrs] at hin hp; exact ⟨hp c hc, (inner_ge (hp c hc) (hin c hc)).1⟩
theorem name_okW {s : ByteArray} (h : scanName s = true) : okW s := by
  obtain ⟨rs, h1, h2, h3, h4⟩ := name_runes h
  exact ⟨rs, h1, h2, h3, fun c hc => ⟨by have := h4 c hc; omega, by have := h4 c hc; omega, by have := h4 c hc; omega, by have := h4 c hc; unfold lineC; simp; omega⟩⟩
theorem name_no {s : ByteArray} (h : scanName s = true) {x : Nat} (hx : x < 128) (hn : ¬ (65 ≤ x ∨ (48 ≤ x ∧ x ≤ 57) ∨ x = 46)) : ∃ l : List UInt8, s = strL l ∧ x.toUInt8 ∉ l := by
  obtain ⟨rs, h1, h2, h3, h4⟩ := name_runes h
  exact ⟨encs rs, h1, not_encs h2 hx fun hm => hn (by have := h4 _ hm; omega)⟩
theorem name_ne {s : ByteArray} (h : scanName s = true) : s ≠ ⟨#[]⟩ := (name_okW h).ne
theorem name_ne_eq {s : ByteArray} (h : scanName s = true) : s ≠ eqS := fun e => by
  obtain ⟨l, h1, h2⟩ := name_no h (x := 61) (by omega) (by omega)
  have : l = [61] := strL_inj (h1.symm.trans e)
  subst this
  exact h2 (.head _)
theorem eq_not_name : scanName eqS = false := by
  cases h : scanName eqS with
  | false => rfl
  | true => exact absurd rfl (name_ne_eq h)
def pairW (v : PVar) : ByteArray := (v.name ++ colon) ++ tyWord v.ty
theorem cut_colon {l r : List UInt8} (h : (58 : UInt8) ∉ l) : cutA (strL (l ++ 58 :: r)) colon = strL l ∧ cutB2 (strL (l ++ 58 :: r)) colon = strL r ∧ cutT (strL (l ++ 58 :: r)) colon = true := by
  have hi : indexB (strL (l ++ 58 :: r)) colon = (l.length : Int) := by show index (strL (l ++ 58 :: r)).data.toList [58] = _; rw [strL_list, index_one, idxB_some h]
  obtain ⟨h1, h2, h3⟩ := cutB_hit _ _ _ hi
  refine ⟨h1.trans (extract_left _ _), h2.trans ?_, h3⟩
  have e : l ++ 58 :: r = (l ++ [58]) ++ r := by simp
  have e2 : l.length + colon.size = (l ++ [58]).length := by rw [List.length_append]; rfl
  rw [e2, e, extract_right]
theorem ty_words : ∀ t : Int, 0 ≤ t ∧ t ≤ 2 → tyOf (tyWord t) = t ∧ isTy (tyWord t) = true ∧ ∃ l, tyWord t = strL l ∧ asciiW l = true := fun t h => by
  have : t = 0 ∨ t = 1 ∨ t = 2 := by omega
  rcases this with rfl | rfl | rfl
  · exact ⟨by decide, by decide, _, rfl, by decide⟩
  · exact ⟨by decide, by decide, _, rfl, by decide⟩
  · exact ⟨by decide, by decide, _, rfl, by decide⟩
theorem pair_read {v : PVar} (hn : scanName v.name = true) (ht : 0 ≤ v.ty ∧ v.ty ≤ 2) : varOk (pairW v) = true ∧ varOf (pairW v) = v := by
  obtain ⟨l, h1, h2⟩ := name_no hn (x := 58) (by omega) (by omega)
  obtain ⟨t1, t2, r, t3, _⟩ := ty_words v.ty ht
  have hw : pairW v = strL (l ++ 58 :: r) := by
    unfold pairW
    have hc : colon = strL [58] := rfl
    rw [h1, t3, hc, strL_app, strL_app]; simp
  obtain ⟨c1, c2, c3⟩ := cut_colon (r := r) h2
  have hok : pairOk (pairW v) = true := by unfold pairOk; rw [hw, c3, c1, ← h1, hn]; rfl
  have hA : pairA (pairW v) = v.name := by unfold pairA; rw [if_pos hok, hw, c1, ← h1]
  have hB : pairB (pairW v) = tyWord v.ty := by unfold pairB; rw [if_pos hok, hw, c2, ← t3]
  refine ⟨by unfold varOk; rw [hok, hB, t2]; rfl, ?_⟩
  unfold varOf; rw [hA, hB, t1]
theorem pair_okW {v : PVar} (hn : scanName v.name = true) (ht : 0 ≤ v.ty ∧ v.ty ≤ 2) : okW (pairW v) := by
  obtain ⟨_, _, r, t3, t4⟩ := ty_words v.ty ht
  unfold pairW
  rw [t3]
  exact ((name_okW hn).app (okW_ascii (l := [58]) (by decide))).app (okW_ascii t4)
theorem pairs_read : ∀ {l : List PVar}, (∀ v ∈ l, scanName v.name = true ∧ 0 ≤ v.ty ∧ v.ty ≤ 2) → varsOk (l.map pairW) = true ∧ varsOf (l.map pairW) = l := fun {l} h => by
  have h1 : varsOk (l.map pairW) = true := by
    unfold varsOk
    rw [List.all_map]
    exact List.all_eq_true.2 fun v hv => (pair_read (h v hv).1 (h v hv).2).1
  refine ⟨h1, ?_⟩
  unfold varsOf
  rw [if_pos h1, List.map_map]
  conv => rhs; rw [← List.map_id l]
  exact List.map_congr_left fun v hv => (pair_read (h v hv).1 (h v hv).2).2
end Go.Proofs.YtdkhlgiohpdihaaGreatDoor
namespace Go.Proofs.YtdkhlgiohpdihaaGreatDoor
open Go.Lib
section
variable {P : Program} {ops : Array Oper} {K : Env → World → Prop} {ρ : Env} {w : World} {rest : List Oper}
variable {d ty : Nat} {pos : String} {af : Array Edge} {x y z : Operand} {t u e : TypeId}
variable {I : Ghost} {O A : List (Nat × Obj)} {E : World}
theorem strCells_cell (s : ByteArray) : ∀ v ∈ strCells s, v.oneCell' = true := by
  intro v hv
  unfold strCells at hv
  obtain ⟨_, _, rfl⟩ := List.mem_map.1 hv; rfl
theorem run_appendT_SL {i : TypeInfo} {n cap : Nat} {a : Option Addr} {cs : List Value} (ht : P.underlying t = some (.slice e)) (hu : P.underlying u = some .string) (hi : P.info? e = some i) (hz : i.zero = some (.int .u8 0)) (hs1 : i.size = 1) (hby : i.bytes = 1)
    (hS : SL I (A ++ O) E w) (hA : OwnS 1 e a n cap cs A) (s : ByteArray) (hb : n + s.size ≤ 140737488355328) :
    ∃ a' cap' A' w', (Builtin.append_ #[t, u] ty #[.slice a n cap, .string s]).run P w = .ok (.slice a' (n + s.size) cap') w' ∧ OwnS 1 e a' (n + s.size) cap' (cs ++ strCells s) A' ∧ SL I (A' ++ O) E w' := by
  obtain ⟨hcl, hnc, hA⟩ := hA
  rw [Nat.mul_one] at hcl
  have hnl := strCells_length s
  rcases hA with ⟨rfl, rfl, rfl⟩ | ⟨b, junk, rfl, rfl, hjl⟩
  · have hn0 : n = 0 := by omega
    subst hn0
    have hcs : cs = [] := List.eq_nil_of_length_eq_zero (by simpa using hcl)
    subst hcs
    by_cases hm : s.size = 0
    · have hn : strCells s = [] := List.eq_nil_of_length_eq_zero (by rw [hnl]; exact hm)
      refine ⟨none, 0, [], w, ?_, by rw [hm, hn]; exact OwnS.nil _ _, hS⟩
      have hf := run_firstCells_string (P := P) w 1 s
      rw [hm] at hf
      simp [Builtin.append_, run_underlying ht, run_underlying hu, sizeOf, typeInfo, hi, hs1, Builtin.lenOf, hm, hf]
    · have hr := run_append_nil_string (P := P) w t u ty e i (.int .u8 0) ht hu hi hz s (by omega) (by omega) (by rw [hby]; omega)
      have e1 : (s.data.map fun b => Value.int .u8 b.toNat) = (strCells s).toArray := by
        apply Array.ext'
        simp [strCells]
      rw [e1] at hr
      refine ⟨_, _, [(w.heap.size, .cells ((strCells s).toArray ++ Builtin.zeroCells (Value.int .u8 0).cells (grownCap w s.size 0 e - s.size)) e (0, 0))], _, by rw [Nat.zero_add]; exact hr, ⟨by simp [hnl], by rw [Nat.zero_add]; exact grownCap_ge _ _ _ _, .inr ⟨_, (Builtin.zeroCells (Value.int .u8 0).cells (grownCap w s.size 0 e - s.size)).toList, rfl, ?_, ?_⟩⟩, (hS.drew).alloc _⟩
      · congr 2; congr 1; simp
      · have := grownCap_ge w s.size 0 e
        have hz1 : (Value.int IntKind.u8 0).cells.size = 1 := rfl
        simp only [List.nil_append, List.length_append, hnl, Array.length_toList, size_zeroCells, hz1]
        omega
  · have hown := hS.own (b, .cells (cs ++ junk).toArray e (0, 0)) (by simp)
    simp only at hown
    have hjl' : cs.length + junk.length = cap := by simpa using hjl
    by_cases hroom : n + s.size ≤ cap
    · have hrun := run_append_room_string (P := P) w t u ty e i ht hu hi hs1 b n cap (cs ++ junk).toArray hown s hroom (by simp; omega)
      have hshape : (List.take n (cs ++ junk).toArray.toList ++ strCells s ++ List.drop (n + s.size) (cs ++ junk).toArray.toList) = (cs ++ strCells s) ++ junk.drop s.size := by
        have e1 : n = cs.length := hcl.symm
        simp only [e1]
        rw [List.take_left, List.drop_append, List.drop_eq_nil_of_le (by omega : cs.length ≤ cs.length + s.size)]
        simp
      rw [hshape] at hrun
      refine ⟨_, _, [(b, .cells ((cs ++ strCells s) ++ junk.drop s.size).toArray e (0, 0))], _, hrun, ⟨by rw [List.length_append, hcl, hnl, Nat.mul_one], hroom, .inr ⟨b, _, rfl, rfl, ?_⟩⟩, ?_⟩
      · simp only [List.length_append, List.length_drop]; omega
      · refine SL.turn (w := w) hS rfl rfl rfl ?_ ?_
        · simp [World.setRow, Array.getElem?_modify, hown]
        · intro k hk
          simp only [World.setRow, Array.getElem?_modify]
          rw [if_neg (by omega)]
    · have hrun := run_append_grow_string (P := P) w t u ty e i (.int .u8 0) ht hu hi hz ⟨b, 0, none⟩ n cap cs (by rw [hs1, Nat.mul_one]; exact hcl) (fun j v hj => by
        rw [addr_add, Nat.zero_add]
        refine hS.at_ (.inr ⟨_, _, _, List.mem_append_left _ (List.mem_singleton.2 rfl), ?_⟩)
        have := (List.getElem?_eq_some_iff.1 hj).1
        rw [List.getElem?_toArray, List.getElem?_append_left this]; exact hj) s (by omega) (by omega) (by rw [hby]; exact growslice_fits (by omega) (by omega))
      refine ⟨_, _, [(w.heap.size, .cells (cs.toArray ++ (strCells s).toArray ++ Builtin.zeroCells (Value.int .u8 0).cells (grownCap w (n + s.size) cap e - (n + s.size))) e (0, 0))], _, hrun, ⟨by rw [List.length_append, hcl, hnl, Nat.mul_one], grownCap_ge _ _ _ _, .inr ⟨_, (Builtin.zeroCells (Value.int .u8 0).cells (grownCap w (n + s.size) cap e - (n + s.size))).toList, rfl, ?_, ?_⟩⟩, ?_⟩
      · congr 2; congr 1; simp
      · have := grownCap_ge w (n + s.size) cap e
        have hz1 : (Value.int IntKind.u8 0).cells.size = 1 := rfl
        simp only [List.length_append, hcl, hnl, Array.length_toList, size_zeroCells, hz1]
        omega
      · have h2 := (hS.drew).alloc (.cells (cs.toArray ++ (strCells s).toArray ++ Builtin.zeroCells (Value.int .u8 0).cells (grownCap w (n + s.size) cap e - (n + s.size))) e (0, 0))
        refine h2.sub ?_
        exact List.Sublist.cons_cons _ (List.sublist_cons_self _ _)
end
def strAV (s : ByteArray) : List AV := s.data.toList.map fun b => .int .u8 b.toNat
theorem strAV_rep (I : G) (s : ByteArray) : RepL I (strAV s) (strCells s) := by
  unfold strAV strCells
  induction s.data.toList with
  | nil => rfl
  | cons b l ih => exact ⟨_, _, rfl, rfl, ih⟩
theorem strAV_len (s : ByteArray) : (strAV s).length = s.size := by
  have := (strAV_rep ⟨fun _ => none, fun _ => none⟩ s).length
  rw [← this, strCells_length]
theorem strAV_app (s u : ByteArray) : strAV (s ++ u) = strAV s ++ strAV u := by unfold strAV; rw [ByteArray.data_append]; simp
theorem strAV_un {I : G} {s : ByteArray} {vs : List Value} (h : RepL I (strAV s) vs) : vs = strCells s := by
  unfold strAV at h; unfold strCells
  generalize s.data.toList = l at h
  induction l generalizing vs with
  | nil => exact h
  | cons b l ih =>
    obtain ⟨v, us, rfl, h1, h2⟩ := h
    have h1 : v = .int .u8 b.toNat := h1
    rw [h1, ih h2]; rfl
section
variable {E : World} {P : Program} {ops : Array Oper} {K : AEnv → OL → Prop} {env : AEnv} {O O' : OL} {rest : List Oper}
variable {d ty : Nat} {pos : String} {af : Array Edge} {x y z : Operand} {t u e : TypeId}
theorem AOps.appendT {ti : TypeInfo} {n i : Nat} {cs : List AV} {s : ByteArray} {f : Nat → OL} (ht : P.underlying t = some (.slice e)) (hu : P.underlying u = some .string) (hi : P.info? e = some ti) (hz : ti.zero = some (.int .u8 0)) (hs1 : ti.size = 1) (hby : ti.bytes = 1)
    (hx : aev env x = .own i n) (hy : aev env y = .str s) (hO : ∀ j, Swp O i (.grow 1 e cs) j (.grow 1 e (cs ++ strAV s)) (f j)) (hn : cs.length = n) (hb : n + s.size ≤ 140737488355328)
    (kk : ∀ j, AOps P E ops K rest (aupd env d (.own j (n + s.size))) (f j)) :
    AOps P E ops K (Oper.mk (some d) (.call { callee := .builtin .append, args := #[x, y], argTypes := #[t, u] }) ty pos af none :: rest) env O := fun I F ρ w h1 h2 => by
  obtain ⟨htop, L, hL, hS⟩ := id h2
  have h3 := h1.ev x
  rw [hx] at h3
  obtain ⟨b, cap, e1, ex⟩ := h3
  have ey := evT h1 hy
  obtain ⟨j, hj⟩ := h2.name
  obtain ⟨A, B, hp, ⟨b', cap', n', us, e2, hus, huc, hown⟩, hback⟩ := (hO j).rep hL
  simp only at e2
  rw [e1] at e2
  simp only [Option.some.injEq, Prod.mk.injEq] at e2
  obtain ⟨rfl, rfl⟩ := e2
  have hnn : n' = n := by
    have h5 := hown.1
    have h6 := hus.length
    omega
  subst hnn
  have hS2 : SL I.k (A ++ (B ++ F)) E w := hS.perm (by rw [← List.append_assoc]; exact (hp.append_right F).symm)
  obtain ⟨a', c', A', w', hrun, h5, h6⟩ := run_appendT_SL (ty := ty) ht hu hi hz hs1 hby hS2 hown s hb
  have hb' : ∃ b'', a' = adr b'' := by
    rcases h5.2.2 with ⟨e, _⟩ | ⟨b'', junk, e, _⟩
    · exact ⟨none, e⟩
    · exact ⟨some b'', e⟩
  obtain ⟨b'', rfl⟩ := hb'
  obtain ⟨J, ek, hle, e3, htop'⟩ := hj (b'', c')
  obtain ⟨L', h8, h9⟩ := hback hle (A' := A') ⟨b'', c', _, us ++ strCells s, e3, RepL.mono hle _ _ (hus.append (strAV_rep I s)), (by
    intro v hv
    rcases List.mem_append.1 hv with hv | hv
    · exact huc v hv
    · exact strCells_cell s v hv), h5⟩
  refine Ops.step rfl ?_
  unfold OpW
  have : (execOp (Go.Proofs.YtdkhlgiohpdihaaGreatDoor.ev ρ) (Oper.mk (some d) (.call { callee := .builtin .append, args := #[x, y], argTypes := #[t, u] }) ty pos af none)).run P w = .ok (.value (.slice (adr b'') (n' + s.size) c')) w' := by
    simp [execOp, resolve, ex, ey, invoke, builtin, hrun]
  rw [this]
  exact Ops.mono (fun _ _ => postK.up hle) _ _ _ (kk j J F _ _ ((h1.mono hle).upd d ⟨b'', c', e3, rfl⟩) ⟨htop', L', h8, by rw [ek]; exact h6.perm (by rw [← List.append_assoc]; exact h9.append_right F)⟩)
theorem Gv.eqlNilR (hp : P.underlying t = some (.pointer (P.pointee t))) (hx : aev env x = .raw (.pointer none)) : Gv P env O (Oper.mk (some d) (.binOp .eql t x (.const (.pointer none)) u) ty pos af none) (.bool true) := Gv.ofEv fun I ρ h => by
  have h1 := evRaw h hx
  have e2 : Go.Proofs.YtdkhlgiohpdihaaGreatDoor.ev ρ (.const (.pointer none)) = .pointer none := rfl
  exact ⟨_, rfl, fun w => by simp only [execOp, h1, e2]; simp [eqGuard, run_eql_pointer_nil w t none hp]⟩
theorem Gv.eqlNilO {i off : Nat} (hp : P.underlying t = some (.pointer (P.pointee t))) (hx : aev env x = .po i off) : Gv P env O (Oper.mk (some d) (.binOp .eql t x (.const (.pointer none)) u) ty pos af none) (.bool false) := Gv.ofEv fun I ρ h => by
  have h1 := h.ev x
  rw [hx] at h1
  obtain ⟨b, c, _, h1⟩ := h1
  have e2 : Go.Proofs.YtdkhlgiohpdihaaGreatDoor.ev ρ (.const (.pointer none)) = .pointer none := rfl
  exact ⟨_, rfl, fun w => by simp only [execOp, h1, e2]; simp [eqGuard, run_eql_pointer_nil w t _ hp]⟩
theorem Gv.neqPO {i off : Nat} {te : TypeId} {j : TypeInfo} (hp : P.underlying t = some (.pointer te)) (hte : P.info? te = some j) (hx : aev env x = .po i off) (hy : aev env y = .po i off) : Gv P env O (Oper.mk (some d) (.binOp .neq t x y u) ty pos af none) (.bool false) := Gv.ofEv fun I ρ h => by
  have h1 := h.ev x
  have h2 := h.ev y
  rw [hx] at h1
  rw [hy] at h2
  obtain ⟨b, c, e1, h1⟩ := h1
  obtain ⟨b', c', e2, h2⟩ := h2
  rw [e1] at e2; cases e2
  exact ⟨_, rfl, fun w => by simp only [execOp, h1, h2]; simp [eqGuard, run_neq_ptr_same w ⟨b, off, none⟩ hp hte]⟩
theorem shape_of {w : World} {b : Nat} {c : Array Value} {T : TypeId} {f : Nat × Nat} (h : w.heap[b]? = some (.cells c T f)) : w.shape? b = some (T, c.size) := by simp [World.shape?, h]
theorem Gv.toUnsafe {src dst te T : TypeId} {j : TypeInfo} {i off : Nat} {cs : List AV} (hs : P.underlying src = some (.pointer te)) (hd : P.underlying dst = some .unsafePointer) (ht : P.info? te = some j) (hj : j.size ≠ 0)
    (hx : aev env x = .po i off) (hO : Has O i (.cells T cs)) (hoff : off < cs.length) : Gv P env O (Oper.mk (some d) (.convert src dst x) ty pos af none) (.po i off) := fun I L E ρ h hL => by
  have h1 := h.ev x
  rw [hx] at h1
  obtain ⟨b, c, e1, h1⟩ := h1
  obtain ⟨b', c', vs, e2, h4, hm⟩ := hO.cells hL
  rw [e1] at e2; cases e2
  refine ⟨_, ⟨b, c, e1, rfl⟩, fun w J L' hl hS hin => ?_⟩
  have hw := hS.own _ (hin _ hm)
  simp only [execOp, h1]
  rw [Sem.run_bind, run_to_unsafe w ⟨b, off, none⟩ hs hd ht hj (shape_of hw) (by have := h4.length; simp; omega)]; rfl
theorem Gv.fromUnsafe {src dst te T : TypeId} {j : TypeInfo} {i off : Nat} {cs : List AV} (hs : P.underlying src = some .unsafePointer) (hd : P.underlying dst = some (.pointer te)) (ht : P.info? te = some j)
    (hx : aev env x = .po i off) (hO : Has O i (.cells T cs)) (hlies : liesAt P P.depth T (cs.length / P.cellsOf T) off te 1 = true) : Gv P env O (Oper.mk (some d) (.convert src dst x) ty pos af none) (.po i off) := fun I L E ρ h hL => by
  have h1 := h.ev x
  rw [hx] at h1
  obtain ⟨b, c, e1, h1⟩ := h1
  obtain ⟨b', c', vs, e2, h4, hm⟩ := hO.cells hL
  rw [e1] at e2; cases e2
  refine ⟨_, ⟨b, c, e1, rfl⟩, fun w J L' hl hS hin => ?_⟩
  have hw := hS.own _ (hin _ hm)
  have hsz : vs.toArray.size = cs.length := by have := h4.length; simpa using this
  have hsh := shape_of hw
  rw [hsz] at hsh
  simp only [execOp, h1]
  rw [Sem.run_bind, run_from_unsafe w ⟨b, off, none⟩ hs hd ht hsh hlies]; rfl
theorem Gv.noEscape {f : FuncId} {fn : Func} {v : AV} {tys : Array TypeId} (hf : P.funcs[f]? = some fn) (hname : (fn.name == "runtime.NumGoroutine") = false) (hb : fn.body.isNone = true) (hn : Extern.findNext fn = none) (he : Extern.find fn = some Extern.AbiNoEscape.same) (hx : aev env x = v) :
    Gv P env O (Oper.mk (some d) (.call { callee := .value (.func f), args := #[x], argTypes := tys }) ty pos af none) v := Gv.ofEv fun I ρ h => by
  refine ⟨Go.Proofs.YtdkhlgiohpdihaaGreatDoor.ev ρ x, hx ▸ h.ev x, fun w => ?_⟩
  have := run_callFunc_extern hf hname hb hn he #[Go.Proofs.YtdkhlgiohpdihaaGreatDoor.ev ρ x] w
  rw [run_noEscape] at this
  have e1 : Go.Proofs.YtdkhlgiohpdihaaGreatDoor.ev ρ (.func f) = .func (.func f) #[] #[] := rfl
  simp [execOp, resolve, e1, Deferred.ofValue, invoke, this, Result.andThen]
theorem SL.scrap {I : Ghost} {A : List (Nat × Obj)} {E w w' : World} {b : Nat} {o : Obj} (h : SL I ((b, o) :: A) E w) (h1 : w'.os = w.os) (h2 : w'.output = w.output) (h3 : w'.tape = w.tape) (h5 : ∀ k, k ≠ b → w'.heap[k]? = w.heap[k]?) : SL I A E w' := by
  have hn := h.nodup
  simp only [List.map_cons, List.nodup_cons] at hn
  refine ⟨h1.trans h.os, h2.trans h.output, h3.trans h.tape, ?_, ?_, hn.2, fun x hx => h.apart x (List.mem_cons_of_mem _ hx), h.base, h.flat, fun x hx => h.oflat x (List.mem_cons_of_mem _ hx)⟩
  · intro k ok hk
    rw [h5 k (fun e => ?_)]
    · exact h.pers k ok hk
    · subst e; rw [h.apart (k, o) (by simp)] at hk; cases hk
  · intro x hx
    rw [h5 x.1 (fun e => hn.1 (e ▸ List.mem_map.2 ⟨x, hx, rfl⟩))]
    exact h.own x (List.mem_cons_of_mem _ hx)
end
section
variable {E : World} {P : Program} {env : AEnv} {O : OL} {d ty : Nat} {pos : String} {af : Array Edge} {t e kt : TypeId} {x y : Operand} {b i : Nat} {es : List (ByteArray × Int)}
theorem Gv.lookup1S {s : ByteArray} (ht : P.underlying t = some (.map kt e)) (hk : P.underlying kt = some .string) (hz : ∀ w, (zeroValue e).run P w = .ok (.int .i64 0) w) (hx : aev env x = mref b) (hy : aev env y = .str s) (hO : Has O i (mapO b es)) :
    Gv P env O (Oper.mk (some d) (.lookup t x y false) ty pos af none) (.int .i64 ((mget s es).getD 0)) := fun I L E ρ h1 hL => by
  obtain ⟨arr, clock, hm, he⟩ := map_in hO hL
  have hx := evRaw h1 hx
  have hy := evT h1 hy
  refine ⟨.int .i64 ((mget s es).getD 0), rfl, fun w J L' hl hS hin => ?_⟩
  have hb := hS.own _ (hin _ hm)
  simp only at hb
  have hc : (Instr.checkKey arr.isEmpty 10000 kt (.string s)).run P w = .ok () w := MapKept.run_checkKey (k := .string s) hk (by simp [MapKept.IsKey]) _ 9999
  cases hg : mget s es with
  | none =>
    have hf := findNow_none (i := 0) he hg
    simp [execOp, Instr.lookup, run_underlying ht, hx, hy, MapKept.run_getObj_map hb, hc, MapKept.run_findKey hk hf, hz, Result.andThen]
  | some u =>
    obtain ⟨j, hf, _⟩ := findNow_some (i := 0) he hg
    simp [execOp, Instr.lookup, run_underlying ht, hx, hy, MapKept.run_getObj_map hb, hc, MapKept.run_findKey hk hf, Result.andThen]
end
section
variable {P : Program} {env : AEnv} {O : OL} {d ty : Nat} {pos : String} {af : Array Edge} {x y : Operand}
theorem Gv.minI {ts : Array TypeId} {k : IntKind} {a b : Int} (hx : aev env x = .int k a) (hy : aev env y = .int k b) : Gv P env O (Oper.mk (some d) (.call { callee := .builtin .min, args := #[x, y], argTypes := ts }) ty pos af none) (.int k (if b < a then b else a)) := Gv.ofEv fun I ρ h => ⟨_, rfl, fun w => by
  simp [execOp, resolve, evI h hx, evI h hy, invoke, builtin, Builtin.min_, Builtin.min2, Result.andThen]⟩
end
theorem mget_set (s v : ByteArray) (n : Int) : ∀ es : List (ByteArray × Int), mget s (mset v n es) = if s = v then some n else mget s es
  | [] => by simp only [mset, mget]
  | (k, u) :: es => by
    simp only [mset]
    split
    · rename_i h; subst h; simp only [mget]; split <;> rfl
    · rename_i h
      simp only [mget, mget_set s v n es]
      split
      · rename_i h2; subst h2; rw [if_neg (fun e => h e.symm)]
      · rfl
end Go.Proofs.YtdkhlgiohpdihaaGreatDoor
