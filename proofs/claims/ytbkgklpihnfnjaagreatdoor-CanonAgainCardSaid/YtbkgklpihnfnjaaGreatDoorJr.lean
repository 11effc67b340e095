/- A program's lines are read as the program. No conditions. -/
import Derived.Test.YtbkgklpihnfnjaaGreatDoorJq
import Derived.Lib.ValidLaws
import Derived.Lib.MapLaws
import Derived.Lib.CutLaws
import Derived.Lib.IndexBytes
import Derived.Test.YtbkgklpihnfnjaaGreatDoorJi
import Derived.Test.YtbkgklpihnfnjaaGreatDoorJh
import Derived.Lib.ParseIntBCases
set_option linter.unusedVariables false
set_option linter.unusedSimpArgs false
set_option linter.unusedSectionVars false
namespace Go.Proofs.YtbkgklpihnfnjaaGreatDoor
open Go.Proofs.Tryz
open Go.Proofs Go.Lib Go.Shelf Go.RowKit
theorem pl118 : Places prog 118 #[(0, 1), (1, 1), (2, 1)] [.raw (.map none), .raw (.map none), .bool false] := ⟨_, _, Zp, zeroValue118, fun w => by kernel_rfl, rfl⟩
theorem ps158_2 : PlacesS prog 158 22 2 1 [.raw (.slice none 0 0), .raw (.slice none 0 0)] := ⟨_, underlying158, Z9, zeroValue22, by decide, by decide, by kernel_rfl⟩
set_option maxRecDepth 20000
variable {E : World}
def putSQ (st : NMap × Bool) (s : ByteArray) : NMap × Bool := (mset s st.1.length st.1, st.2 || hasM st.1 s)
def putAllQ (st : NMap × Bool) (l : List ByteArray) : NMap × Bool := l.foldl putSQ st
theorem putAllQ_step {st : NMap × Bool} {l : List ByteArray} {k : Nat} (h : k < l.length) : putAllQ st (l.take (k + 1)) = putSQ (putAllQ st (l.take k)) l[k] := by
 unfold putAllQ; rw [qe h, List.foldl_append]; rfl
def varNames (S : PProg) : List ByteArray := (S.params ++ S.vars).map PVar.name
def blkNames (S : PProg) : List ByteArray := (blocksOf S).map fun b => b.1.name
def vState (S : PProg) : NMap × Bool := putAllQ ([], false) (varNames S)
def bState (S : PProg) : NMap × Bool := putAllQ ([], (vState S).2) (blkNames S)
def lostP (S : PProg) : Bool := (bState S).2 || (blocksOf S).any (lostBlk (vState S).1 (bState S).1)
def parL (n k : Nat) : List Int := (List.range (min k n)).map fun i : Nat => (i : Int)
def funcP (S : PProg) : PFunc := ⟨S.params ++ S.vars, parL S.params.length (S.params ++ S.vars).length, (blocksOf S).map (blockOf (vState S).1 (bState S).1)⟩
def buildP (S : PProg) : Option PFunc := if lostP S = true then none else some (funcP S)
theorem parL_yes {n k : Nat} (h : k < n) : parL n (k + 1) = parL n k ++ [(k : Int)] := by
 unfold parL; rw [Nat.min_eq_left (by omega), Nat.min_eq_left (by omega), List.range_succ, qo]; rfl
theorem parL_no {n k : Nat} (h : ¬ k < n) : parL n (k + 1) = parL n k := by
 unfold parL; rw [Nat.min_eq_right (by omega), Nat.min_eq_right (by omega)]
theorem parL_len (n k : Nat) : (parL n k).length = min k n := by unfold parL; simp
theorem blk_step {bs : List (PHead × List PItem)} {k : Nat} (h : k < bs.length) {g : PHead × List PItem → PBlock} : (((bs.take k).map g).map encBlk).flatten ++ [encBlk (g bs[k])].flatten = (((bs.take (k + 1)).map g).map encBlk).flatten := by
 rw [qe h, qo, qo, List.flatten_append]; rfl
def fAV (f : PFunc) : AV := .agg (encF f)
structure BlksOk (bs : List (PHead × List PItem)) : Prop where
 len : bs.length ≤ 1000000
 each : ∀ b ∈ bs, ItemsOk b.2 ∧ b.1.tos.length ≤ 2
set_option maxHeartbeats 1000000 in
theorem buildR (S : PProg) (h1 : S.params.length ≤ 1000000) (h2 : S.vars.length ≤ 1000000) (hb : BlksOk (blocksOf S)) : ACall prog E 26 [encP S] [] (OptG fAV (buildP S)) := by
 have hcat : lenVL [S.params, S.vars] ≤ 1000000000 := by unfold lenVL; simp; omega
 have hvl : (S.params ++ S.vars).length ≤ 2000000 := by simp; omega
 have hnl : (varNames S).length = (S.params ++ S.vars).length := by unfold varNames; simp
 have hbl := hb.len
 have hbn : (blkNames S).length = (blocksOf S).length := by unfold blkNames; simp
 obtain ⟨vs, hvs⟩ : ∃ vs, S.params ++ S.vars = vs := ⟨_, rfl⟩
 refine zk func26 Z (by decide) Z ?_
 have hconc : AFun prog E 60 [.fro 1 [[.fro 2 (S.params.map encVar)], [.fro 2 (S.vars.map encVar)]]] (.fro 2 (vs.map encVar)) := by
  have := concatV_spec (E := E) [S.params, S.vars] (by simp) hcat
  rwa [show [S.params, S.vars].flatten = vs by simp [hvs]] at this
 have hvl2 : vs.length ≤ 2000000 := by rw [← hvs]; exact hvl
 have hv : vState S = putAllQ ([], false) (vs.map PVar.name) := by unfold vState varNames; rw [hvs]
 have hf : funcP S = ⟨vs, parL S.params.length vs.length, (blocksOf S).map (blockOf (vState S).1 (bState S).1)⟩ := by unfold funcP; rw [hvs]
 refine zSr<|y6 (cs := _) Z Z Z<|zq (cs := [.raw (.slice none 0 0), .raw (.slice none 0 0), .raw (.slice none 0 0)]) Zh Z Z<|fun i2 => zVzAb Z<|z6<|zSr<|AOps.makeMap<|fun b12 => AOps.makeMap<|fun b13 => z8 (y4 (cps := [(0, [_]), (1, [_])]) (rs := [_, _, .bool false]) pl118 Z Z Z)<|AOps.boxO (cs := _) Z Z Z Z<|fun i15 => z8 (zAp Z)<|z6<|zSr<|zVzFF Zc Z Z9 Z Z<|zVzLf Zn Z<|zVzFF Zc Z Z9 Z Z<|zVzLf Zn Z<|zl (rows := [[_], [_]]) ps158_2 Z Z Z Z Z<|zd (hconc) Z<|z8 (y4 (cps := [(0, [_])]) (rs := [_, .raw (.slice none 0 0), .raw (.slice none 0 0)]) pl26 Z Z Z)<|zq (cs := [.raw (.slice none 0 0), .raw (.slice none 0 0), .raw (.slice none 0 0)]) Zh Z Z<|fun i5 => zm jj Z Z Z Z Z Z .head Z<|z6<|zb<|zSr<|z8 (zc jc Z Z9 (by decide) Z Z)<|z8 (zj (c := .fro _ _) Zn Z ⟨_, .head⟩ Z)<|zVGvlenM js Z<|zVzMi Z<|z6<|zg<|adoptC_wp (off := 1) (k := 1) (T := 3) (fun _ => .head) Z<|fun jpar => zt (zn (zp .t3))<|zt (zn (zp .t4))<|zt (zn (zp .t4)) ?_
 refine zt (zn (zp .t5))<|zt (zn (zp .t5))<|zt (zn (zp .t5))<|y3 (γ := Nat × NMap × Bool × Nat) [1, 2, 4, 5, 24, 25] (fun g => [(26, .int .i64 g.1)]) (fun g => [(g.2.2.2, .grow 1 3 ((parL S.params.length g.1).map encI).flatten), (i5, .cells 26 [.fro 2 (vs.map encVar), .own g.2.2.2 (parL S.params.length g.1).length, .raw (.slice none 0 0)]), (i2, .cells 26 [.raw (.slice none 0 0), .raw (.slice none 0 0), .raw (.slice none 0 0)]), (i15, .cells 118 [mref b12, mref b13, .bool g.2.2.1]), (0, mapO b12 g.2.1), (0, mapO b13 [])]) (fun g => g.1 ≤ vs.length ∧ (g.2.1, g.2.2.1) = putAllQ ([], false) ((vs.map PVar.name).take g.1)) (fun g => vs.length - g.1) (0, [], false, jpar) zR1 zLe (⟨qg _, Z⟩) ?_
 rintro ⟨k, vm, lost, jpar⟩ ⟨hk, hst⟩
 try dsimp only at *
 refine zSr<|zVGvlss Z Z<|z6<|zb<|zr Z (fun ck=>?_) (fun ck=>?_)
 ·have hk2 : k < vs.length := by omega
  have hst2 : (mset vs[k].name vm.length vm, lost || hasM vm vs[k].name) = putAllQ ([], false) ((vs.map PVar.name).take (k + 1)) := by
   rw [putAllQ_step (by simpa using hk2), ← hst, List.getElem_map]; rfl
  have hpl := parL_len S.params.length k
  refine zf<|zb<|zg<|zSr<|zVzMi Z<|z8 (yi js Zd Z Z Z (qd (by omega)))<|zVGvloadWF Xg Zd Z Z<|zq (cs := [.str ⟨#[]⟩, .int .i64 0]) Yz Z Z<|fun i7 => zVzAi Z<|zm Zd Z Z Z Z Z Z .head Z<|z6<|zb<|zw (fun j => false) (by kernel_rfl) Z (zu (.r (.rest _)))<|zTk 0 Z (zMp Z)<|zTk 1 Z (zMp Z)<|zTk 2 Z (yl Z)<|zTk 3 Z (zc Zp Z X8 (by decide) Z Z)<|zTk 5 Z (zc Zf Z jx (by decide) Z Z)<|zTk 6 Z (zj (c := .str _) Z5 Z ⟨_, .head⟩ Z)<|zOn 4 Z<|z8 (zj (c := mref _) X0 Z ⟨_, .t3⟩ Z)<|z6<|zOn 7 Z<|ye Z (zu (.r (.r (.r (.l (.l (.r (.rest _)))))))) (put_tab_spec _ vs[k].name) ?_
  rintro r38 O38 ⟨rfl, rfl⟩
  refine y1 (zn (zp .t5))<|y1 (zn (zp .t2))<|y1 (zn (zp .t2))<|y1 (zn (zp .t5))<|y1 (zn (zp .t5))<|y1 (zn (zp .t5))<|z6<|zDn<|zSr<|zVzMi Z<|zVzFF Zc Z Z9 Z Z<|zVzLf Zn Z<|zVGvlenM js Z<|zVGvlss Z Z<|z6<|zr Z (fun cp=>?_) (fun cp=>?_)
  ·have hp2 : k < S.params.length := by simpa using cp
   refine zRg<|z8 (zc jc Z jn (by decide) Z Z)<|z8 (zj (c := .own _ _) jz Z ⟨_, .t2⟩ Z)<|zVzMi Z<|zl (rows := [[_]]) ps23_1 Z Z Z Z Z<|zy (k := 1) j9 Yx Z Z Z Z Z (fun _ => .t1) (by rw [grow_len (k := 1) (fun _ => rfl)]) (by decide) Z (by show ((parL S.params.length k).length + 1) * 8 ≤ _; omega) (by show (parL S.params.length k).length + 1 ≤ _; omega)<|fun i48 => z8 (zc jc Z jn (by decide) Z Z)<|y5 (l := [_]) (new := [_, _, _]) jn Z Z Z Z Z Z .t2 Z Z<|z6<|zt (zn (zp .t6))<|zt (zn (zp .t6))<|zt (zn (zp .t6))<|zt (zn (zp .t6))<|zt (zn (zp .t6))<|zt (zn (zp .t6))<|zRg<|zVzAd Z Z<|zVzMi Z<|z6 ?_
   exact ⟨(k + 1, mset vs[k].name vm.length vm, (lost || hasM vm vs[k].name), i48), zR6, zR1, ⟨_, (.keep (.keep (.keep (.keep (.keep (.keep (.drop (.refl _)))))))), by dsimp only; rw [parL_yes hp2, ← grow_push (enc := encI) (rfl : parL S.params.length k ++ [(k : Int)] = _), qj]; rfl⟩, ⟨hk2, hst2⟩, by dsimp only; omega⟩
  ·have hp2 : ¬ k < S.params.length := by simpa using cp
   refine zt (zn (zp .t6))<|zt (zn (zp .t6))<|zt (zn (zp .t6))<|zt (zn (zp .t6))<|zt (zn (zp .t6))<|zt (zn (zp .t6))<|zf<|zRg<|zVzAd Z Z<|zVzMi Z<|z6 ?_
   exact ⟨(k + 1, mset vs[k].name vm.length vm, (lost || hasM vm vs[k].name), jpar), zR6, zR1, ⟨_, (.keep (.keep (.keep (.keep (.keep (.keep (.drop (.refl _)))))))), by dsimp only; rw [parL_no hp2]⟩, ⟨hk2, hst2⟩, by dsimp only; omega⟩
 ·obtain rfl : k = vs.length := by omega
  rw [List.take_of_length_le (by simp), ← hv] at hst
  refine y2<|zb<|zSr<|zVzFF Zc Z Yc Z Z<|zVzLf X3 Z<|zVGvlenM Zr Z<|zVzMi Z<|z6<|zg<|y3 (γ := Nat × NMap × Bool) [1, 2, 4, 5, 52, 53] (fun g => [(54, .int .i64 g.1)]) (fun g => [(jpar, .grow 1 3 ((parL S.params.length vs.length).map encI).flatten), (i5, .cells 26 [.fro 2 (vs.map encVar), .own jpar (parL S.params.length vs.length).length, .raw (.slice none 0 0)]), (i2, .cells 26 [.raw (.slice none 0 0), .raw (.slice none 0 0), .raw (.slice none 0 0)]), (i15, .cells 118 [mref b12, mref b13, .bool g.2.2]), (0, mapO b12 vm), (0, mapO b13 g.2.1)]) (fun g => g.1 ≤ (blocksOf S).length ∧ (g.2.1, g.2.2) = putAllQ ([], (vState S).2) ((blkNames S).take g.1)) (fun g => (blocksOf S).length - g.1) (0, [], lost) zR1 zLe (⟨qg _, by rw [← hst]; rfl⟩) ?_
  rintro ⟨k, bm, lost⟩ ⟨hk, hst3⟩
  try dsimp only at *
  refine zSr<|zVGvlss Z Z<|z6<|zb<|zr Z (fun ck=>?_) (fun ck=>?_)
  ·have hk2 : k < (blocksOf S).length := by omega
   have hst2 : (mset (blocksOf S)[k].1.name bm.length bm, lost || hasM bm (blocksOf S)[k].1.name) = putAllQ ([], (vState S).2) ((blkNames S).take (k + 1)) := by
    rw [putAllQ_step (by omega), ← hst3]; unfold blkNames; rw [List.getElem_map]; rfl
   refine zf<|zb<|zg<|zSr<|z8 (yi Zr Yh Z Z Z (qd (by omega)))<|zVGvloadWF isAgg114 Yh Z Z<|zq (cs := [.str ⟨#[]⟩, .raw (.slice none 0 0), .int .i64 0, .str ⟨#[]⟩, .raw (.slice none 0 0), .bool false]) zeroValue114 Z Z<|fun i9 => zm Yh Z Z Z Z Z Z .head Z<|z6<|zw (fun j => false) (by kernel_rfl) Z (zu (.r (.rest _)))<|zTk 0 Z (zMp Z)<|zTk 1 Z (zMp Z)<|zTk 2 Z (yl Z)<|zTk 3 Z (zc Zp Z X8 (by decide) Z Z)<|zTk 5 Z (zc Z6 Z jx (by decide) Z Z)<|zTk 6 Z (zj (c := .str _) Z5 Z ⟨_, .head⟩ Z)<|zOn 4 Z<|z8 (zj (c := mref _) X0 Z ⟨_, .t3⟩ Z)<|z6<|zOn 7 Z<|ye Z (zu (.r (.r (.r (.l (.r (.l (.rest _)))))))) (put_tab_spec _ (blocksOf S)[k].1.name) ?_
   rintro r65 O65 ⟨rfl, rfl⟩
   refine y1 (zn (zp .t1))<|y1 (zn (zp .t5))<|y1 (zn (zp .t2))<|y1 (zn (zp .t5))<|y1 (zn (zp .t5))<|y1 (zn (zp .t5))<|z6<|zDn<|zRg<|zVzAd Z Z<|zVzMi Z<|z6 ?_
   exact ⟨(k + 1, mset (blocksOf S)[k].1.name bm.length bm, (lost || hasM bm (blocksOf S)[k].1.name)), zR6, zR1, ⟨_, (.drop (.refl _)), rfl⟩, ⟨hk2, hst2⟩, by dsimp only; omega⟩
  ·obtain rfl : k = (blocksOf S).length := by omega
   rw [List.take_of_length_le (by omega)] at hst3
   have hst4 : (bm, lost) = bState S := hst3
   refine y2<|zb<|zSr<|zVzFF Zc Z Yc Z Z<|zVzLf X3 Z<|zVGvlenM Zr Z<|zVzMi Z<|z6<|zg<|adoptC_wp (off := 2) (k := 7) (T := 49) (fun _ => .t1) Z<|fun jb => y3 (γ := Nat × Bool × Nat) [2, 4, 5, 68, 69] (fun g => [(70, .int .i64 g.1)]) (fun g => [(g.2.2, .grow 7 49 ((((blocksOf S).take g.1).map (blockOf vm bm)).map encBlk).flatten), (jpar, .grow 1 3 ((parL S.params.length vs.length).map encI).flatten), (i5, .cells 26 [.fro 2 (vs.map encVar), .own jpar (parL S.params.length vs.length).length, .own g.2.2 g.1]), (i2, .cells 26 [.raw (.slice none 0 0), .raw (.slice none 0 0), .raw (.slice none 0 0)]), (i15, .cells 118 [mref b12, mref b13, .bool g.2.1]), (0, mapO b12 vm), (0, mapO b13 bm)]) (fun g => g.1 ≤ (blocksOf S).length ∧ g.2.1 = (lost || ((blocksOf S).take g.1).any (lostBlk vm bm))) (fun g => (blocksOf S).length - g.1) (0, lost, jb) zR1 zLe (⟨qg _, by simp⟩) ?_
   rintro ⟨k, lo, jb⟩ ⟨hk, hlo⟩
   try dsimp only at *
   refine zSr<|zVGvlss Z Z<|z6<|zb<|zr Z (fun ck=>?_) (fun ck=>?_)
   ·have hk2 : k < (blocksOf S).length := by omega
    obtain ⟨hit, hto⟩ := hb.each _ (qh hk2)
    have hta : (blocksOf S).take (k + 1) = (blocksOf S).take k ++ [(blocksOf S)[k]] := qe hk2
    refine zf<|zb<|zg<|zSr<|z8 (yi Zr Yh Z Z Z (qd (by omega)))<|zVGvloadWF isAgg114 Yh Z Z<|zq (cs := [.str ⟨#[]⟩, .raw (.slice none 0 0), .int .i64 0, .str ⟨#[]⟩, .raw (.slice none 0 0), .bool false]) zeroValue114 Z Z<|fun i11 => zm Yh Z Z Z Z Z Z .head Z<|z6<|zw (fun j => Nat.beq j 8) (by kernel_rfl) Z (zu (.r (.l (.l (.r (.rest _))))))<|zTk 0 Z (zc jc Z Z2 (by decide) Z Z)<|zTk 1 Z (zj (c := .own _ _) Ze Z ⟨_, .t1⟩ Z)<|zTk 2 Z (zMp Z)<|zTk 3 Z (yg isAgg114 Yh Z ⟨_, .head⟩ Z)<|zOn 4 Z<|ye Z (zu (.r (.r (.r (.l (.l (.l (.rest _)))))))) (blk_tab_spec (bv := b12) (bb := b13) (vm := vm) (bm := bm) lo (blocksOf S)[k].1 (blocksOf S)[k].2 hit hto) ?_
    rintro r78 O78 ⟨rfl, rfl⟩
    refine z6<|zOn 5 Z<|zl (rows := [[_, _, _, _, _, _, _]]) ps24_1 Z Z Z Z Z<|z6<|zOn 6 Z<|zy (k := 7) jo type49 Z Z Z Z Z (fun _ => .t3) (by rw [List.map_map, grow_len (k := 7) (fun _ => rfl), qp, Nat.min_eq_left hk]) (by decide) Z (by show (k + 1) * 96 ≤ _; omega) (by show k + 1 ≤ _; omega)<|fun i80 => z6<|zTk 7 Z (zc jc Z Z2 (by decide) Z Z)<|yb<|y7 (i := 8) Z (by kernel_rfl) (by kernel_rfl)<|y5 (l := [_]) (new := [_, _, _]) Z2 Z Z Z Z Z Z .t1 Z Z<|y1 (zn (zp .t4))<|y1 (zn (zp .t4))<|y1 (zn (zp .t4))<|y1 (zn (zp .t7))<|y1 (zn (zp .t5))<|y1 (zn (zp .t7))<|y1 (zn (zp .t7))<|z6<|yf (by kernel_rfl)<|zRg<|zVzAd Z Z<|zVzMi Z<|z6 ?_
    exact ⟨(k + 1, (lo || lostBlk vm bm ((blocksOf S)[k].1, (blocksOf S)[k].2)), i80), zR5, zR1, ⟨_, (.keep (.keep (.keep (.keep (.keep (.keep (.keep (.drop (.refl _))))))))), by dsimp only; rw [← blk_step hk2]; rfl⟩, ⟨hk2, by dsimp only; rw [hta, List.any_append, hlo]; simp [Bool.or_assoc]⟩, by dsimp only; omega⟩
   ·obtain rfl : k = (blocksOf S).length := by omega
    rw [qi] at hlo ⊢
    have e1 : vm = (vState S).1 := by rw [← hst]
    have e2 : bm = (bState S).1 := by rw [← hst4]
    have e3 : lost = (bState S).2 := by rw [← hst4]
    have hlost : lo = lostP S := by rw [hlo, e1, e2, e3]; rfl
    refine zt (ym (off := 1) (rows := (parL S.params.length vs.length).map encI) .t1 .t1 Z (by simp [encI, encVar, encPhi, encInst, encBlk]) (by decide) (by simp))<|zt (ym (off := 2) (rows := ((blocksOf S).map (blockOf vm bm)).map encBlk) .head .head Z (by intro r hr; obtain ⟨x, _, rfl⟩ := List.mem_map.1 hr; rfl) (by decide) (by simp))<|zt (yj (t := 4) Z .t2)<|zt (yj (t := 5) Z .head)<|y2<|zb<|zw (fun j => Nat.beq j 6) (by kernel_rfl) Z (zu (.rest _))<|zTk 0 Z (yq ju jj Z Z)<|yd (i := 1) Z (by kernel_rfl) (by kernel_rfl) (by kernel_rfl) (by kernel_rfl) (zMg Z)<|yd (i := 2) Z (by kernel_rfl) (by kernel_rfl) (by kernel_rfl) (by kernel_rfl) (Gv.nilCheckF Z)<|yd (i := 3) Z (by kernel_rfl) (by kernel_rfl) (by kernel_rfl) (by kernel_rfl) (zFF Zp Z Zj Z Z)<|yd (i := 4) Z (by kernel_rfl) (by kernel_rfl) (by kernel_rfl) (by kernel_rfl) (ya (c := .bool _) Yo Z)<|yd (i := 5) Z (by kernel_rfl) (by kernel_rfl) (by kernel_rfl) (by kernel_rfl) (Gv.not Z)<|yb<|y7 (i := 6) Z (by kernel_rfl) (by kernel_rfl)<|zm jj Z Z Z Z Z Z .head Z<|z6<|y7 (i := 7) Z (by kernel_rfl) (by kernel_rfl)<|zVzAb Z<|z6<|yf (by kernel_rfl)<|ze<|afin.c1t (y := .bool _) Z Z ⟨_, .head⟩ ju jj Z ?_
    exact optG_ret (by rw [hlost]; unfold buildP; cases lostP S <;> rfl) (fun f hf2 => by unfold buildP at hf2; rw [hf, ← e1, ← e2] at hf2; split at hf2; cases hf2; cases hf2; rfl)
theorem build_spec (S : PProg) (h1 : S.params.length ≤ 1000000) (h2 : S.vars.length ≤ 1000000) (hb : BlksOk (blocksOf S)) :
  AFun prog E 26 [encP S] (.tup [optG fAV (buildP S), .bool (buildP S).isSome]) := AFun.optG (buildR S h1 h2 hb)
end Go.Proofs.YtbkgklpihnfnjaaGreatDoor
namespace Go.Proofs.YtbkgklpihnfnjaaGreatDoor
open Go.Proofs.Tryz
open Go.Proofs Go.Lib Go.Shelf Go.RowKit
set_option maxRecDepth 20000
variable {E : World}
def argsLe (N : Nat) : PItem → Prop
 | .phi _ f a => f.length ≤ N ∧ a.length ≤ N
 | .inst _ _ a _ => a.length ≤ N
theorem evens_len : ∀ w : List ByteArray, (evens w).length ≤ w.length
 | [] => Nat.le_refl _
 | [_] => qg _
 | _ :: _ :: l => by have := evens_len l; simp [evens]; omega
theorem odds_len : ∀ w : List ByteArray, (odds w).length ≤ w.length
 | [] => Nat.le_refl _
 | [_] => qg _
 | _ :: _ :: l => by have := odds_len l; simp [odds]; omega
theorem opItem_args {N : Nat} {d : ByteArray} {w : List ByteArray} {x : PItem} (hw : w.length ≤ N) (h : opItem d w = some x) : argsLe N x := by
 cases w with
 | nil => cases h
 | cons a r =>
  have hr : r.length ≤ N := by simp at hw; omega
  have h : opCons d a r = some x := h
  unfold opCons at h
  split at h
  ·split at h
   ·split at h
    ·cases h; show (r.take _).length ≤ N; rw [qp]; omega
    ·cases h
   ·split at h
    ·cases h; exact hr
    ·cases h
  ·cases h
theorem instrItem_args {N : Nat} {w : List ByteArray} {x : PItem} (hw : w.length ≤ N) (h : instrItem w = some x) : argsLe N x := by
 unfold instrItem at h
 split at h
 ·exact opItem_args hw h
 ·split at h
  ·cases h
  ·split at h
   ·unfold phiItem at h
    split at h
    ·cases h
     have h1 := evens_len (w.drop 3)
     have h2 := odds_len (w.drop 3)
     rw [List.length_drop] at h1 h2
     exact ⟨by omega, by omega⟩
    ·cases h
   ·exact opItem_args (by rw [List.length_drop]; omega) h
theorem endB_tos {h h' : PHead} {w : List ByteArray} (ht : h.tos.length ≤ 2) (he : endB h w = some h') : h'.tos.length ≤ 2 := by
 unfold endB at he
 split at he
 ·cases he
 ·split at he
  ·rename_i hc; cases he; show (w.drop 1).length ≤ 2; rw [List.length_drop]; omega
  ·split at he
   ·rename_i hc; cases he; show (w.drop 2).length ≤ 2; rw [List.length_drop]; omega
   ·split at he
    ·cases he; exact ht
    ·cases he
structure BK (N n : Nat) (b : PHead × List PItem) : Prop where
 len : b.2.length ≤ n
 tos : b.1.tos.length ≤ 2
 args : ∀ x ∈ b.2, argsLe N x
theorem BK.more {N n m : Nat} {b : PHead × List PItem} (h : BK N n b) (hm : n ≤ m) : BK N m b := ⟨Nat.le_trans h.1 hm, h.2, h.3⟩
theorem BK.line {N n : Nat} {h : PHead} {it : List PItem} {w : List ByteArray} {r : PHead × List PItem} (hb : BK N n (h, it)) (hw : w.length ≤ N) (hl : lineB h it w = some r) : BK N (n + 1) r := by
 have h1 := hb.1
 unfold lineB at hl
 split at hl
 ·cases hl
 ·split at hl
  ·rename_i h' he; cases hl; exact ⟨by simp at h1 ⊢; omega, endB_tos hb.2 he, hb.3⟩
  ·split at hl
   ·cases hl
   ·rename_i x hx
    split at hl
    ·cases hl
    ·cases hl
     refine ⟨by simp at h1 ⊢; omega, hb.2, fun y hy => ?_⟩
     rcases List.mem_append.1 hy with hy | hy
     ·exact hb.3 y hy
     ·rw [List.mem_singleton.1 hy]; exact instrItem_args hw hx
theorem BK.new (N n : Nat) (s : ByteArray) : BK N n (newHead s, []) := ⟨qg _, by show ([] : List ByteArray).length ≤ 2; exact qg _, by simp⟩
structure PK (N n : Nat) (S : PProg) : Prop where
 cnt : (blocksOf S).length ≤ n
 each : ∀ b ∈ blocksOf S, BK N n b
theorem PK.step {N n : Nat} {S S' : PProg} {w : List ByteArray} (h : PK N n S) (hw : w.length ≤ N) (hl : lineP S w = some S') : PK N (n + 1) S' := by
 obtain ⟨params, vars, done, cur⟩ := S
 have h1 := h.1
 have h2 := h.2
 unfold lineP at hl
 cases cur with
 | none =>
  simp only [blocksOf, Option.toList, List.append_nil] at h1 h2
  simp only [lineP0] at hl
  split at hl
  ·cases hl
   refine ⟨by simp [blocksOf]; omega, fun b hb => ?_⟩
   simp only [blocksOf, Option.toList] at hb
   rcases List.mem_append.1 hb with hb | hb
   ·exact (h2 b hb).more (Nat.le_succ _)
   ·rw [List.mem_singleton.1 hb]; exact BK.new _ _ _
  ·split at hl
   ·cases hl
    exact ⟨by simp [blocksOf]; omega, fun b hb => (h2 b (by simpa [blocksOf] using hb)).more (Nat.le_succ _)⟩
   ·cases hl
 | some b0 =>
  simp only [blocksOf, Option.toList] at h1 h2
  simp only [lineP1] at hl
  split at hl
  ·split at hl
   ·cases hl
    refine ⟨by simp [blocksOf] at h1 ⊢; omega, fun b hb => ?_⟩
    simp only [blocksOf, Option.toList] at hb
    rcases List.mem_append.1 hb with hb | hb
    ·exact (h2 b hb).more (Nat.le_succ _)
    ·rw [List.mem_singleton.1 hb]; exact BK.new _ _ _
   ·cases hl
  ·cases hr : lineB b0.1 b0.2 w with
   | none => rw [hr] at hl; cases hl
   | some r =>
    rw [hr] at hl; cases hl
    refine ⟨by simp [blocksOf] at h1 ⊢; omega, fun b hb => ?_⟩
    simp only [blocksOf, Option.toList] at hb
    rcases List.mem_append.1 hb with hb | hb
    ·exact (h2 b (List.mem_append_left _ hb)).more (Nat.le_succ _)
    ·rw [List.mem_singleton.1 hb]; exact (h2 b0 (by simp)).line hw hr
theorem run_PK {N : Nat} : ∀ {ls : List PLine} {n : Nat} {S S' : PProg}, PK N n S → (∀ l ∈ ls, l.2.length ≤ N) → runLines S ls = some S' → PK N (n + ls.length) S' ∧ S'.vars.length ≤ S.vars.length + words ls ∧ S'.params = S.params
 | [], n, S, S', h, _, hr => by cases hr; exact ⟨h, by simp [words], rfl⟩
 | l :: ls, n, S, S', h, hw, hr => by
  rw [runLines] at hr
  cases hl : lineP S l.2 with
  | none => rw [hl] at hr; cases hr
  | some S1 =>
   rw [hl] at hr
   obtain ⟨h1, h2, h3⟩ := run_PK (h.step (hw l (.head _)) hl) (fun x hx => hw x (.tail _ hx)) hr
   obtain ⟨h4, h5⟩ := lineP_vars hl
   refine ⟨by rw [List.length_cons]; exact (by rw [show n + (ls.length + 1) = n + 1 + ls.length by omega]; exact h1), ?_, h3.trans h5⟩
   unfold words at h2 ⊢
   rw [List.map_cons, List.sum_cons]; omega
theorem readP_PK {N : Nat} {ls : List PLine} {S : PProg} (hw : ∀ l ∈ ls, l.2.length ≤ N) (h : readP ls = some S) : PK N ls.length S ∧ S.vars.length ≤ words ls ∧ S.params.length ≤ N := by
 cases ls with
 | nil => cases h
 | cons l0 rest =>
  have h : (if atW l0.2 0 = funcS then (tgt l0 rest).bind endP else none) = some S := h
  split at h
  ·unfold tgt at h
   split at h
   ·cases hr : runLines (start l0.2) rest with
    | none => rw [hr] at h; cases h
    | some S1 =>
     rw [hr] at h
     have hS : S1 = S := by
      have h : endP S1 = some S := h
      unfold endP at h
      cases hc : S1.cur with
      | none => rw [hc] at h; cases h
      | some b =>
       rw [hc] at h
       have h : (if b.1.ended = true then some S1 else none) = some S := h
       exact opt_eq h
     subst hS
     obtain ⟨h1, h2, h3⟩ := run_PK (N := N) (n := 0) ⟨by simp [blocksOf, start], by simp [blocksOf, start]⟩ (fun x hx => hw x (.tail _ hx)) hr
     refine ⟨⟨by have := h1.1; rw [List.length_cons]; omega, fun b hb => (h1.2 b hb).more (by rw [List.length_cons]; omega)⟩, ?_, ?_⟩
     ·have : (start l0.2).vars.length = 0 := rfl
      unfold words at h2 ⊢
      rw [List.map_cons, List.sum_cons]; omega
     ·rw [h3]
      have h4 := hw l0 (.head _)
      show (varsOf (l0.2.drop 1)).length ≤ N
      have h5 : (varsOf (l0.2.drop 1)).length ≤ (l0.2.drop 1).length := by
       unfold varsOf
       by_cases hv : varsOk (l0.2.drop 1) = true
       ·rw [if_pos hv, qk]; exact Nat.le_refl _
       ·rw [if_neg hv]; exact qg _
      rw [List.length_drop] at h5; omega
   ·cases h
  ·cases h
theorem itemsN_bound {n m : Nat} : ∀ {bs : List (PHead × List PItem)}, bs.length ≤ n → (∀ b ∈ bs, b.2.length ≤ m) → itemsN bs ≤ bs.length * m
 | [], _, _ => qg _
 | b :: bs, h, hb => by
  have h1 := itemsN_bound (n := n) (bs := bs) (by simp at h; omega) (fun x hx => hb x (.tail _ hx))
  have h2 := hb b (.head _)
  unfold itemsN at h1 ⊢
  rw [List.map_cons, List.sum_cons, List.length_cons, Nat.add_mul]; omega
theorem PK.blks {N n : Nat} {S : PProg} (h : PK N n S) (hN : N ≤ 1000000) (hn : n ≤ 1000000) : BlksOk (blocksOf S) :=
 ⟨Nat.le_trans h.1 hn, fun b hb => ⟨⟨Nat.le_trans (h.2 b hb).1 hn, fun x hx => by
  have := (h.2 b hb).3 x hx
  cases x with
  | phi d f a => exact ⟨Nat.le_trans this.1 hN, Nat.le_trans this.2 hN⟩
  | inst op d a n => exact Nat.le_trans this hN⟩, (h.2 b hb).2⟩⟩
end Go.Proofs.YtbkgklpihnfnjaaGreatDoor
namespace Go.Proofs.YtbkgklpihnfnjaaGreatDoor
open Go.Proofs.Tryz
open Go.Proofs Go.Lib Go.Shelf Go.RowKit
set_option maxRecDepth 20000
variable {E : World}
theorem wdGo_ok (s : ByteArray) : ∀ (n p : Nat) (out : List ByteArray) (word : List Int), s.size - p ≤ n → (wdGo s p out word).length ≤ out.length + n ∧ ∀ x ∈ wdGo s p out word, x ∈ out ∨ x.size ≤ 4 * (word.length + n) := by
 intro n
 induction n with
 | zero =>
  intro p out word h
  rw [wdGo, dif_neg (by omega)]
  exact ⟨Nat.le_refl _, fun x hx => .inl hx⟩
 | succ n ih =>
  intro p out word h
  have hd := (decode_ok s p).1
  rw [wdGo]
  by_cases hp : p < s.size
  ·rw [dif_pos hp]
   split
   ·split
    ·obtain ⟨h1, h2⟩ := ih (p + (Utf8.decode s p).2) out word (by omega)
     exact ⟨by omega, fun x hx => (h2 x hx).imp id (fun h => by omega)⟩
    ·obtain ⟨h1, h2⟩ := ih (p + (Utf8.decode s p).2) (out ++ [runesBytes word]) [] (by omega)
     refine ⟨by simp at h1; omega, fun x hx => ?_⟩
     rcases h2 x hx with h3 | h3
     ·rcases List.mem_append.1 h3 with h4 | h4
      ·exact .inl h4
      ·rw [List.mem_singleton.1 h4]; exact .inr (by have := runesBytes_size_le word; omega)
     ·exact .inr (by simp at h3; omega)
   ·obtain ⟨h1, h2⟩ := ih (p + (Utf8.decode s p).2) out (word ++ [((Utf8.decode s p).1 : Int)]) (by omega)
    exact ⟨by omega, fun x hx => (h2 x hx).imp id (fun h => by simp at h; omega)⟩
  ·rw [dif_neg hp]
   exact ⟨by omega, fun x hx => .inl hx⟩
theorem scanWords_ok (s : ByteArray) : (scanWords s).length ≤ s.size + 1 ∧ ∀ x ∈ scanWords s, x.size ≤ 4 * (s.size + 1) := by
 have hc := cutA_size s hash
 have hcs : (cutA s hash ++ ⟨#[32]⟩ : ByteArray).size = (cutA s hash).size + 1 := by rw [ByteArray.size_append]; rfl
 obtain ⟨h1, h2⟩ := wdGo_ok (cutA s hash ++ ⟨#[32]⟩) (s.size + 1) 0 [] [] (by omega)
 refine ⟨by unfold scanWords; simpa using h1, fun x hx => ?_⟩
 rcases h2 x hx with h | h
 ·cases h
 ·simpa using h
theorem lineGo_ok : ∀ (ls : List ByteArray) (i : Nat), (lineGo ls i).length ≤ ls.length ∧ ∀ l ∈ lineGo ls i, l.2 ≠ [] ∧ ∃ p ∈ ls, l.2 = scanWords p
 | [], _ => ⟨Nat.le_refl _, by intro l hl; cases hl⟩
 | l :: ls, i => by
  obtain ⟨h1, h2⟩ := lineGo_ok ls (i + 1)
  rw [lineGo]
  split
  ·exact ⟨by simp; omega, fun x hx => ⟨(h2 x hx).1, let ⟨p, hp, e⟩ := (h2 x hx).2; ⟨p, .tail _ hp, e⟩⟩⟩
  ·rename_i hne
   refine ⟨by simp; omega, fun x hx => ?_⟩
   rcases List.mem_cons.1 hx with rfl | hx
   ·exact ⟨hne, l, .head _, rfl⟩
   ·exact ⟨(h2 x hx).1, let ⟨p, hp, e⟩ := (h2 x hx).2; ⟨p, .tail _ hp, e⟩⟩
theorem words_le {N : Nat} : ∀ {ls : List PLine}, (∀ l ∈ ls, l.2.length ≤ N) → words ls ≤ ls.length * N
 | [], _ => qg _
 | l :: ls, h => by
  have h1 := words_le (ls := ls) (fun x hx => h x (.tail _ hx))
  have h2 := h l (.head _)
  unfold words at h1 ⊢
  rw [List.map_cons, List.sum_cons, List.length_cons, Nat.add_mul]; omega
structure LinesOk (ls : List PLine) : Prop where
 len : ls.length ≤ 16385
 each : ∀ l ∈ ls, 0 < l.2.length ∧ l.2.length ≤ 16385 ∧ ∀ x ∈ l.2, x.size ≤ 65540
theorem linesOf_ok (s : ByteArray) : LinesOk (linesOf s) := by
 unfold linesOf
 by_cases hr : rightE s = 0
 ·rw [if_pos hr]
  have hsz := rightE_size hr
  have hn : (splitL s nl).length ≤ 16385 := by have h1 := Lib.splitB_length_le nl 0 (Lib.countB s nl) s; have h2 := Lib.countB_le nl (by decide) s.size s (Nat.le_refl _); unfold splitL; omega
  obtain ⟨h1, h2⟩ := lineGo_ok (splitL s nl) 0
  refine ⟨Nat.le_trans h1 hn, fun l hl => ?_⟩
  obtain ⟨h3, p, hp, e⟩ := h2 l hl
  have hpiece : p.size ≤ 16384 := splitB_size nl 16384 _ s hsz _ hp
  obtain ⟨h4, h5⟩ := scanWords_ok p
  rw [e] at h3 ⊢
  exact ⟨List.length_pos_iff.2 h3, by omega, fun x hx => by have := h5 x hx; omega⟩
 ·rw [if_neg hr]; exact ⟨qg _, by intro l hl; cases hl⟩
theorem LinesOk.words {ls : List PLine} (h : LinesOk ls) : Go.Proofs.YtbkgklpihnfnjaaGreatDoor.words ls ≤ 268468225 := by
 have h1 := words_le (N := 16385) (fun l hl => (h.2 l hl).2.1)
 have h2 : ls.length * 16385 ≤ 16385 * 16385 := Nat.mul_le_mul_right _ h.1
 omega
def parseC (s : ByteArray) : Int × Option PFunc :=
 if rightE s = 0 then
  match readP (linesOf s) with
  | none => (2, none)
  | some S => if fitsP S = true then (match buildP S with | none => (3, none) | some f => (0, some f)) else (4, none)
 else (rightE s, none)
def emptyF : PFunc := ⟨[], [], []⟩
theorem zparse_spec (s : ByteArray) (hs : s.size ≤ 140737488355328) (hL : Letters E) (hT : Pows E) (hV : Vars0 E) :
  AFun prog E 10 [.str s] (.tup [.agg (encF ((parseC s).2.getD emptyF)), .int .i64 (parseC s).1]) := by
 have hlo := linesOf_ok s
 have hwd := hlo.words
 have hne : NEL (linesOf s) := fun l hl => ⟨(hlo.2 l hl).1, by have := (hlo.2 l hl).2.1; omega, fun x hx => by have := (hlo.2 l hl).2.2 x hx; omega⟩
 have hrd := read_spec (E := E) (linesOf s) (by have := hlo.1; omega) (by omega) hne hL hT hV
 refine zk func10 Z (by decide) Z<|zSr<|zq (cs := [.raw (.slice none 0 0), .raw (.slice none 0 0), .raw (.slice none 0 0)]) Zh Z Z<|fun i2 => zVzAi Z<|z6<|zSr<|z8 (y9 (v := .str _) Z)<|zd (zlines_spec s hs hV) Z<|z8 (zMu Z)<|z8 (yk (v := .fro _ _) Z Z)<|z8 (zXi Z Z)<|z8 (zAf Z)<|zVzAi Z<|z6<|zb<|zSr<|zVzMi Z<|zVGvneqI Z Z<|z6<|zz Z (fun c0=>?_) (fun c0=>?_)
 ·have hr : ¬ rightE s = 0 := by simpa using c0
  have hp : parseC s = (rightE s, none) := by unfold parseC; rw [if_neg hr]
  refine zSr<|z8 (y4 (cps := []) (rs := [.raw (.slice none 0 0), .raw (.slice none 0 0), .raw (.slice none 0 0)]) pl26 Z Z Z)<|zVzMi Z<|zm jj Z Z Z Z Z Z .head Z<|zVzAi Z<|z6<|zt (q0 (off := 0) .head Z (nil_fro 2))<|zt (q0 (off := 1) .head Z (nil_fro 1))<|zt (q0 (off := 2) .head Z (nil_fro 7))<|ze<|afin.c1t (y := .int _ _) Z Z ⟨_, .head⟩ ju jj Z ?_
  rw [hp]; rfl
 ·have hr : rightE s = 0 := by simpa using c0
  have hp0 : parseC s = (match readP (linesOf s) with
   | none => (2, none)
   | some S => if fitsP S = true then (match buildP S with | none => (3, none) | some f => (0, some f)) else (4, none)) := by unfold parseC; rw [if_pos hr]
  rcases hS : readP (linesOf s) with _ | S
  ·rw [hS] at hrd hp0
   refine zf<|zSr<|zVzMf Z<|zd (hrd) Z<|z8 (zMu Z)<|z8 (yk (v := .agg _) Z Z)<|z8 (zXb Z Z)<|zq (cs := [.raw (.slice none 0 0), .raw (.slice none 0 0), .raw (.slice none 0 0)]) zeroValue67 Z Z<|fun i6 => zm Y5 Z Z Z Z Z Z .head Z<|zVzAb Z<|z6<|zb<|zg<|zSr<|zVzMb Z<|zVGvnot Z<|zVzAb Z<|z6<|yh Z Z<|zSr<|z8 (y4 (cps := []) (rs := [.raw (.slice none 0 0), .raw (.slice none 0 0), .raw (.slice none 0 0)]) pl26 Z Z Z)<|zm jj Z Z Z Z Z Z .t1 Z<|zVzAi Z<|z6<|zt (q0 (off := 0) .t1 Z (nil_fro 2))<|zt (q0 (off := 1) .t1 Z (nil_fro 1))<|zt (q0 (off := 2) .t1 Z (nil_fro 7))<|ze<|afin.c1t (y := .int _ _) Z Z ⟨_, .t1⟩ ju jj Z ?_
   rw [hp0]; rfl
  ·rw [hS] at hrd hp0
   dsimp only at hp0
   obtain ⟨hpk, hpv, hpp⟩ := readP_PK (N := 16385) (fun l hl => (hlo.2 l hl).2.1) hS
   have hl1 := hlo.1
   have hbs := hpk.blks (by omega) (by omega)
   have hin := itemsN_bound (n := 16385) (m := 16385) (bs := blocksOf S) (by have := hpk.1; omega) (fun b hb => Nat.le_trans (hpk.2 b hb).1 hl1)
   have hin2 : itemsN (blocksOf S) ≤ 1000000000 := by
    have h2 : (blocksOf S).length * 16385 ≤ 16385 * 16385 := Nat.mul_le_mul_right _ (by have := hpk.1; omega)
    omega
   have hfit := fits_spec (E := E) S (by omega) (by omega) (by have := hpk.1; omega) (by omega)
   refine zf<|zSr<|zVzMf Z<|zd (hrd) Z<|z8 (zMu Z)<|z8 (yk (v := .agg _) Z Z)<|z8 (zXb Z Z)<|zq (cs := [.raw (.slice none 0 0), .raw (.slice none 0 0), .raw (.slice none 0 0)]) zeroValue67 Z Z<|fun i6 => zm Y5 Z Z Z Z Z Z .head Z<|zVzAb Z<|z6<|zb<|zg<|zSr<|zVzMb Z<|zVGvnot Z<|zVzAb Z<|z6<|yc Z Z<|zSr<|z8 (yg X6 Y5 Z ⟨_, .head⟩ Z)<|zd (hfit) Z<|zVGvnot Z<|zVzAb Z<|z6<|zz Z (fun c1=>?_) (fun c1=>?_)
   ·have hf : ¬ fitsP S = true := by simpa using c1
    rw [if_neg hf] at hp0
    refine zSr<|z8 (y4 (cps := []) (rs := [.raw (.slice none 0 0), .raw (.slice none 0 0), .raw (.slice none 0 0)]) pl26 Z Z Z)<|zm jj Z Z Z Z Z Z .t1 Z<|zVzAi Z<|z6<|zt (q0 (off := 0) .t1 Z (nil_fro 2))<|zt (q0 (off := 1) .t1 Z (nil_fro 1))<|zt (q0 (off := 2) .t1 Z (nil_fro 7))<|ze<|afin.c1t (y := .int _ _) Z Z ⟨_, .t1⟩ ju jj Z ?_
    rw [hp0]; rfl
   ·have hf : fitsP S = true := by simpa using c1
    rw [if_pos hf] at hp0
    have hvf : S.vars.length ≤ 1000000 := by unfold fitsP at hf; simp at hf; omega
    have hbd := build_spec (E := E) S (by omega) hvf hbs
    rcases hB : buildP S with _ | f
    ·rw [hB] at hbd hp0
     refine zf<|zSr<|z8 (yg X6 Y5 Z ⟨_, .head⟩ Z)<|zd (hbd) Z<|z8 (zMu Z)<|z8 (yk (v := .agg _) Z Z)<|z8 (zXb Z Z)<|zq (cs := [.raw (.slice none 0 0), .raw (.slice none 0 0), .raw (.slice none 0 0)]) Zh Z Z<|fun i8 => zm jj Z Z Z Z Z Z .head Z<|zVzAb Z<|z6<|zb<|zSr<|zVzMb Z<|zVGvnot Z<|z6<|yh Z Z<|zSr<|z8 (y4 (cps := []) (rs := [.raw (.slice none 0 0), .raw (.slice none 0 0), .raw (.slice none 0 0)]) pl26 Z Z Z)<|zm jj Z Z Z Z Z Z .t2 Z<|zVzAi Z<|z6<|zt (q0 (off := 0) .t2 Z (nil_fro 2))<|zt (q0 (off := 1) .t2 Z (nil_fro 1))<|zt (q0 (off := 2) .t2 Z (nil_fro 7))<|ze<|afin.c1t (y := .int _ _) Z Z ⟨_, .t2⟩ ju jj Z ?_
     rw [hp0]; rfl
    ·rw [hB] at hbd hp0
     refine zf<|zSr<|z8 (yg X6 Y5 Z ⟨_, .head⟩ Z)<|zd (hbd) Z<|z8 (zMu Z)<|z8 (yk (v := .agg _) Z Z)<|z8 (zXb Z Z)<|zq (cs := [.raw (.slice none 0 0), .raw (.slice none 0 0), .raw (.slice none 0 0)]) Zh Z Z<|fun i8 => zm jj Z Z Z Z Z Z .head Z<|zVzAb Z<|z6<|zb<|zSr<|zVzMb Z<|zVGvnot Z<|z6<|yc Z Z<|zf<|zSr<|z8 (yg ju jj Z ⟨_, .head⟩ Z)<|zm jj Z Z Z Z Z Z .t2 Z<|zVzAi Z<|z6<|ze<|afin.c1t (y := .int _ _) Z Z ⟨_, .t2⟩ ju jj Z ?_
     rw [hp0]; rfl
end Go.Proofs.YtbkgklpihnfnjaaGreatDoor
namespace Go.Proofs.YtbkgklpihnfnjaaGreatDoor
open Go.Proofs.Tryz
open Go.Proofs Go.Lib Go.Shelf Go.RowKit
set_option maxRecDepth 20000
def okR (c : Int) : Prop := (0 ≤ c ∧ c < 55296) ∨ (57343 < c ∧ c ≤ 1114111)
def encs (rs : List Int) : List UInt8 := rs.flatMap encodeRune
theorem byteN {z : Int} (h0 : 0 ≤ z) (h1 : z < 256) : (z.toNat.toUInt8).toNat = z.toNat := by
 simp [Nat.toUInt8]; omega
theorem dec_enc {c : Int} (h : okR c) (post : List UInt8) : decodeL (encodeRune c ++ post) = (c.toNat, (encodeRune c).length) := by
 obtain ⟨n, rfl⟩ : ∃ n : Nat, c = n := ⟨c.toNat, by unfold okR at h; omega⟩
 have hn : n < 55296 ∨ (57343 < n ∧ n ≤ 1114111) := by unfold okR at h; omega
 rw [decodeL_N]
 unfold encodeRune
 by_cases h1 : n ≤ 127
 ·rw [encodeRuneZ_one (by omega) (by omega)]
  simp only [List.map_cons, List.map_nil, List.cons_append, List.nil_append, List.getD_cons_zero]
  rw [byteN (by omega) (by omega)]
  unfold decodeN
  rw [if_pos (by omega)]; rfl
 ·by_cases h2 : n ≤ 2047
  ·rw [encodeRuneZ_two (by omega) (by omega)]
   simp only [List.map_cons, List.map_nil, List.cons_append, List.nil_append, List.getD_cons_zero, List.getD_cons_succ]
   rw [byteN (by omega) (by omega), byteN (by omega) (by omega)]
   unfold decodeN
   rw [if_neg (by omega), if_pos ⟨by omega, by simp, by omega⟩, if_pos (by omega)]
   exact Prod.ext (by dsimp only; omega) rfl
  ·by_cases h3 : n ≤ 65535
   ·rw [encodeRuneZ_three (by omega)]
    simp only [List.map_cons, List.map_nil, List.cons_append, List.nil_append, List.getD_cons_zero, List.getD_cons_succ]
    rw [byteN (by omega) (by omega), byteN (by omega) (by omega), byteN (by omega) (by omega)]
    unfold decodeN
    rw [if_neg (by omega), if_neg (by omega), if_pos ⟨by omega, ⟨by simp, by omega⟩, by simp, by omega⟩, if_pos (by omega)]
    exact Prod.ext (by dsimp only; omega) rfl
   ·rw [encodeRuneZ_four (by omega) (by omega)]
    simp only [List.map_cons, List.map_nil, List.cons_append, List.nil_append, List.getD_cons_zero, List.getD_cons_succ]
    rw [byteN (by omega) (by omega), byteN (by omega) (by omega), byteN (by omega) (by omega), byteN (by omega) (by omega)]
    unfold decodeN
    rw [if_neg (by omega), if_neg (by omega), if_neg (by omega), if_pos ⟨by omega, ⟨by simp, by omega⟩, ⟨by simp, by omega⟩, by simp, by omega⟩, if_pos (by omega)]
    exact Prod.ext (by dsimp only; omega) rfl
theorem enc_len (c : Int) : 1 ≤ (encodeRune c).length := by unfold encodeRune; rw [qk]; exact (encodeRuneZ_length c).1
theorem enc_ne (c : Int) (post : List UInt8) : encodeRune c ++ post ≠ [] := by
 have := enc_len c
 intro h
 have h2 := congrArg List.length h
 rw [qj, List.length_nil] at h2; omega
theorem encs_cons (c : Int) (rs : List Int) : encs (c :: rs) = encodeRune c ++ encs rs := rfl
theorem encs_app (a b : List Int) : encs (a ++ b) = encs a ++ encs b := by unfold encs; rw [List.flatMap_append]
theorem valid_encs : ∀ {rs : List Int}, (∀ c ∈ rs, okR c) → validD (encs rs) = true
 | [], _ => rfl
 | c :: rs, h => by
  have hc := h c (.head _)
  rw [encs_cons, validD_step _ (enc_ne _ _), dec_enc hc]
  have hbad : ¬ (c.toNat = 65533 ∧ (encodeRune c).length = 1) := by
   rintro ⟨h1, h2⟩
   have : c = 65533 := by unfold okR at hc; omega
   subst this
   cases h2
  rw [if_neg hbad, List.drop_left]
  exact valid_encs fun x hx => h x (.tail _ hx)
theorem decN_valid (n b0 b1 b2 b3 : Nat) : okR ((decodeN n b0 b1 b2 b3).1 : Int) := by
 unfold okR decodeN
 repeat' split
 all_goals (dsimp only; omega)
theorem encs_of_valid : ∀ (n : Nat) (l : List UInt8), l.length ≤ n → validD l = true → ∃ rs, l = encs rs ∧ ∀ c ∈ rs, okR c
 | 0, l, hn, _ => ⟨[], qn (by omega), by simp⟩
 | n + 1, l, hn, hv => by
  by_cases hl : l = []
  ·exact ⟨[], by rw [hl]; rfl, by simp⟩
  ·rw [validD_step l hl] at hv
   split at hv
   ·cases hv
   ·rename_i hbad
    have he := encode_decode l hl hbad
    have hw := decodeL_width l
    obtain ⟨rs, h1, h2⟩ := encs_of_valid n (l.drop (decodeL l).2) (by rw [List.length_drop]; have := List.length_pos_iff.2 hl; omega) hv
    refine ⟨((decodeL l).1 : Int) :: rs, ?_, fun c hc => ?_⟩
    ·rw [encs_cons, he, ← h1, List.take_append_drop]
    ·rcases List.mem_cons.1 hc with rfl | hc
     ·rw [decodeL_N]; exact decN_valid _ _ _ _ _
     ·exact h2 c hc
theorem enc_low {c : Int} (h : okR c) {b : UInt8} (hb : b ∈ encodeRune c) (h1 : b.toNat < 128) : c = b.toNat := by
 obtain ⟨n, rfl⟩ : ∃ n : Nat, c = n := ⟨c.toNat, by unfold okR at h; omega⟩
 have hn : n < 55296 ∨ (57343 < n ∧ n ≤ 1114111) := by unfold okR at h; omega
 unfold encodeRune at hb
 obtain ⟨z, hz, rfl⟩ := List.mem_map.1 hb
 have hzb := encodeRuneZ_byte _ z hz
 rw [byteN hzb.1 hzb.2] at h1 ⊢
 by_cases c1 : n ≤ 127
 ·rw [encodeRuneZ_one (by omega) (by omega)] at hz
  simp at hz; omega
 ·by_cases c2 : n ≤ 2047
  ·rw [encodeRuneZ_two (by omega) (by omega)] at hz
   simp at hz; omega
  ·by_cases c3 : n ≤ 65535
   ·rw [encodeRuneZ_three (by omega)] at hz
    simp at hz; omega
   ·rw [encodeRuneZ_four (by omega) (by omega)] at hz
    simp at hz; omega
theorem enc_ascii {c : Int} (h0 : 0 ≤ c) (h1 : c ≤ 127) : encodeRune c = [c.toNat.toUInt8] := by unfold encodeRune; rw [encodeRuneZ_one h0 h1]; rfl
theorem runes_encs {s : ByteArray} : ∀ {rs : List Int} {p : Nat}, (∀ c ∈ rs, okR c) → p ≤ s.size → s.data.toList.drop p = encs rs → runesFrom s p = rs
 | [], p, _, hp, h => by
  have hl := congrArg List.length h
  rw [List.length_drop] at hl
  have hsz : s.data.toList.length = s.size := Array.length_toList
  have : (encs []).length = 0 := rfl
  exact runesFrom_ge (by omega)
 | c :: rs, p, hc, hp, h => by
  have hsz : s.data.toList.length = s.size := Array.length_toList
  have hd : Utf8.decode s p = (c.toNat, (encodeRune c).length) := by rw [← decodeL_drop, h, encs_cons, dec_enc (hc c (.head _))]
  have hl := congrArg List.length h
  rw [List.length_drop, encs_cons, qj] at hl
  have he := enc_len c
  have h0 : 0 ≤ c := by have := hc c (.head _); unfold okR at this; omega
  rw [runesFrom_lt (by omega), hd]
  dsimp only
  rw [qt h0]
  congr 1
  refine runes_encs (fun x hx => hc x (.tail _ hx)) (by omega) ?_
  rw [← List.drop_drop, h, encs_cons, List.drop_left]
theorem encode_rune {c : Int} (h : okR c) : Utf8.encode c = strL (encodeRune c) := by
 obtain ⟨n, rfl⟩ : ∃ n : Nat, c = n := ⟨c.toNat, by unfold okR at h; omega⟩
 have hn : n < 55296 ∨ (57343 < n ∧ n ≤ 1114111) := by unfold okR at h; omega
 have hv : Utf8.valid (n : Int) = true := by unfold Utf8.valid; simp; omega
 unfold Utf8.encode encodeRune
 rw [if_pos hv, Int.toNat_natCast]
 dsimp only
 by_cases h1 : n ≤ 127
 ·rw [if_pos (by omega), encodeRuneZ_one (by omega) (by omega)]; rfl
 ·by_cases h2 : n ≤ 2047
  ·rw [if_neg (by omega), if_pos (by omega), encodeRuneZ_two (by omega) (by omega)]; rfl
  ·by_cases h3 : n ≤ 65535
   ·rw [if_neg (by omega), if_neg (by omega), if_pos (by omega), encodeRuneZ_three (by omega)]; rfl
   ·rw [if_neg (by omega), if_neg (by omega), if_neg (by omega), encodeRuneZ_four (by omega) (by omega)]; rfl
theorem runesBytes_fold : ∀ (rs : List Int) (s : ByteArray), (∀ c ∈ rs, okR c) → rs.foldl (fun r n => r ++ Utf8.encode n) s = s ++ strL (encs rs)
 | [], s, _ => by show s = s ++ strL []; exact (ByteArray.append_empty).symm
 | c :: rs, s, h => by
  rw [List.foldl_cons, runesBytes_fold rs _ (fun x hx => h x (.tail _ hx)), encode_rune (h c (.head _)), ByteArray.append_assoc, strL_app, encs_cons]
theorem runesBytes_encs {rs : List Int} (h : ∀ c ∈ rs, okR c) : runesBytes rs = strL (encs rs) := by
 unfold runesBytes; rw [runesBytes_fold rs _ h]; exact ByteArray.empty_append
theorem strL_inj {a b : List UInt8} (h : strL a = strL b) : a = b := by
 have := congrArg (fun s : ByteArray => s.data.toList) h
 simpa [strL] using this
theorem strL_list (a : List UInt8) : (strL a).data.toList = a := by simp [strL]
theorem idxB_none {c : UInt8} : ∀ {l : List UInt8}, c ∉ l → indexByte l c = -1
 | [], _ => rfl
 | b :: l, h => by
  have hb : ¬ b = c := fun e => h (e ▸ .head _)
  have ih := idxB_none (l := l) (fun hm => h (.tail _ hm))
  rw [indexByte, if_neg (by simpa using hb), ih]; rfl
theorem idxB_some {c : UInt8} {r : List UInt8} : ∀ {l : List UInt8}, c ∉ l → indexByte (l ++ c :: r) c = (l.length : Int)
 | [], _ => by rw [List.nil_append, indexByte, if_pos (by simp)]; rfl
 | b :: l, h => by
  have hb : ¬ b = c := fun e => h (e ▸ .head _)
  have ih := idxB_some (r := r) (l := l) (fun hm => h (.tail _ hm))
  rw [List.cons_append, indexByte, if_neg (by simpa using hb), ih, if_neg (by simp)]
  simp
theorem cutA_none {l : List UInt8} (h : (35 : UInt8) ∉ l) : cutA (strL l) hash = strL l := by
 have hi : indexB (strL l) hash = -1 := by show index (strL l).data.toList [35] = -1; rw [strL_list, index_one, idxB_none h]
 exact (cutB_miss _ _ hi).1
theorem extract_left (a b : List UInt8) : (strL (a ++ b)).extract 0 a.length = strL a := by
 rw [extract_eq]
 show strL _ = strL _
 rw [strL_list, List.drop_zero, Nat.sub_zero, List.take_left]
theorem extract_right (a b : List UInt8) : (strL (a ++ b)).extract a.length (strL (a ++ b)).size = strL b := by
 rw [extract_eq]
 show strL _ = strL _
 rw [strL_list, List.drop_left, strL_size, qj, List.take_of_length_le (by omega)]
theorem cutA_some {l r : List UInt8} (h : (35 : UInt8) ∉ l) : cutA (strL (l ++ 35 :: r)) hash = strL l := by
 have hi : indexB (strL (l ++ 35 :: r)) hash = (l.length : Int) := by show index (strL (l ++ 35 :: r)).data.toList [35] = _; rw [strL_list, index_one, idxB_some h]
 exact (cutB_hit _ _ _ hi).1.trans (extract_left _ _)
theorem count_nl (l : List UInt8) : countB (strL l) nl = l.count 10 := by
 show Lib.count (strL l).data.toList [10] = _
 rw [strL_list, count_one]
theorem splitL_none {l : List UInt8} (h : (10 : UInt8) ∉ l) : splitL (strL l) nl = [strL l] := by
 have hi : indexB (strL l) nl = -1 := by show index (strL l).data.toList [10] = -1; rw [strL_list, index_one, idxB_none h]
 exact splitB_miss _ _ _ _ hi
theorem splitL_some {l r : List UInt8} (h : (10 : UInt8) ∉ l) : splitL (strL (l ++ 10 :: r)) nl = strL l :: splitL (strL r) nl := by
 have hi : indexB (strL (l ++ 10 :: r)) nl = (l.length : Int) := by show index (strL (l ++ 10 :: r)).data.toList [10] = _; rw [strL_list, index_one, idxB_some h]
 have hc : countB (strL (l ++ 10 :: r)) nl = countB (strL r) nl + 1 := by
  rw [count_nl, count_nl, List.count_append, List.count_cons_self, List.count_eq_zero_of_not_mem h, Nat.zero_add]
 unfold splitL
 rw [hc, splitB_hit _ _ _ _ _ hi, Nat.add_zero, extract_left]
 congr 1
 have : l ++ 10 :: r = (l ++ [10]) ++ r := by simp
 have h2 : l.length + nl.size = (l ++ [10]).length := by rw [qj]; rfl
 rw [h2, this, extract_right]
end Go.Proofs.YtbkgklpihnfnjaaGreatDoor
namespace Go.Proofs.YtbkgklpihnfnjaaGreatDoor
open Go.Proofs.Tryz
open Go.Proofs Go.Lib Go.Shelf Go.RowKit
set_option maxRecDepth 20000
def wdL : List Int → List (List Int) → List Int → List (List Int)
 | [], out, _ => out
 | c :: rs, out, word => if c = 32 then (if word = [] then wdL rs out [] else wdL rs (out ++ [word]) []) else wdL rs out (word ++ [c])
def okL1 (rs : List Int) : Prop := ∀ c ∈ rs, okR c
theorem wdGo_encs {s : ByteArray} : ∀ {rs : List Int} {p : Nat} {out : List (List Int)} {word : List Int}, okL1 rs → p ≤ s.size → s.data.toList.drop p = encs rs →
  wdGo s p (out.map runesBytes) word = (wdL rs out word).map runesBytes
 | [], p, out, word, _, hp, h => by
  have hl := congrArg List.length h
  rw [List.length_drop] at hl
  have hsz : s.data.toList.length = s.size := Array.length_toList
  have : (encs []).length = 0 := rfl
  rw [wdGo, dif_neg (by omega)]; rfl
 | c :: rs, p, out, word, hc, hp, h => by
  have hsz : s.data.toList.length = s.size := Array.length_toList
  have hd : Utf8.decode s p = (c.toNat, (encodeRune c).length) := by rw [← decodeL_drop, h, encs_cons, dec_enc (hc c (.head _))]
  have hl := congrArg List.length h
  rw [List.length_drop, encs_cons, qj] at hl
  have he := enc_len c
  have h0 : 0 ≤ c := by have := hc c (.head _); unfold okR at this; omega
  have hnext : s.data.toList.drop (p + (encodeRune c).length) = encs rs := by rw [← List.drop_drop, h, encs_cons, List.drop_left]
  have hrs : okL1 rs := fun x hx => hc x (.tail _ hx)
  have hle : p + (encodeRune c).length ≤ s.size := by omega
  rw [wdGo, dif_pos (by omega), hd]
  dsimp only
  rw [qt h0, wdL]
  by_cases h1 : c = 32
  ·rw [if_pos h1, if_pos h1]
   by_cases h2 : word = []
   ·rw [if_pos h2, if_pos h2, h2]; exact wdGo_encs hrs hle hnext
   ·rw [if_neg h2, if_neg h2]
    have := wdGo_encs (out := out ++ [word]) (word := []) hrs hle hnext
    rw [qo] at this
    exact this
  ·rw [if_neg h1, if_neg h1]; exact wdGo_encs hrs hle hnext
theorem wdL_out : ∀ (rs : List Int) (out : List (List Int)) (word : List Int), wdL rs out word = out ++ wdL rs [] word
 | [], out, _ => by simp [wdL]
 | c :: rs, out, word => by
  rw [wdL, wdL]
  split
  ·split
   ·exact wdL_out rs out []
   ·rw [wdL_out rs (out ++ [word]) [], wdL_out rs ([] ++ [word]) []]; simp
  ·exact wdL_out rs out (word ++ [c])
def cutH (rs : List Int) : List Int := rs.takeWhile (fun c => !decide (c = 35))
def lineW (rs : List Int) : List (List Int) := wdL (cutH rs ++ [32]) [] []
theorem mem_encs {b : UInt8} {rs : List Int} (h : okL1 rs) (hb : b ∈ encs rs) (h1 : b.toNat < 128) : ((b.toNat : Nat) : Int) ∈ rs := by
 unfold encs at hb
 obtain ⟨c, hc, hbc⟩ := List.mem_flatMap.1 hb
 rw [← enc_low (h c hc) hbc h1]; exact hc
theorem cutH_none : ∀ {rs : List Int}, (35 : Int) ∉ rs → cutH rs = rs
 | [], _ => rfl
 | c :: rs, h => by
  have hc : ¬ c = 35 := fun e => h (e ▸ .head _)
  unfold cutH
  rw [List.takeWhile_cons, if_pos (by simpa using hc)]
  congr 1
  exact cutH_none fun hm => h (.tail _ hm)
theorem cutH_some {r : List Int} : ∀ {l : List Int}, (35 : Int) ∉ l → cutH (l ++ 35 :: r) = l
 | [], _ => rfl
 | c :: l, h => by
  have hc : ¬ c = 35 := fun e => h (e ▸ .head _)
  unfold cutH
  rw [List.cons_append, List.takeWhile_cons, if_pos (by simpa using hc)]
  congr 1
  exact cutH_some fun hm => h (.tail _ hm)
theorem at_first (x : Int) : ∀ rs : List Int, x ∉ rs ∨ ∃ a b, rs = a ++ x :: b ∧ x ∉ a
 | [] => .inl (by simp)
 | c :: rs => by
  by_cases h : c = x
  ·exact .inr ⟨[], rs, by rw [h]; rfl, by simp⟩
  ·rcases at_first x rs with h1 | ⟨a, b, e, h1⟩
   ·exact .inl (by simp; exact ⟨fun e => h e.symm, h1⟩)
   ·exact .inr ⟨c :: a, b, by rw [e]; rfl, by simp; exact ⟨fun e => h e.symm, h1⟩⟩
theorem not_encs {x : Nat} {rs : List Int} (h : okL1 rs) (hx : x < 128) (hn : (x : Int) ∉ rs) : x.toUInt8 ∉ encs rs := fun hm => by
 have hb : (x.toUInt8).toNat = x := by simp [Nat.toUInt8]; omega
 have := mem_encs h hm (by omega)
 rw [hb] at this
 exact hn this
theorem okL1.app_l {a b : List Int} (h : okL1 (a ++ b)) : okL1 a := fun c hc => h c (List.mem_append_left _ hc)
theorem okL1.app_r {a b : List Int} (h : okL1 (a ++ b)) : okL1 b := fun c hc => h c (List.mem_append_right _ hc)
theorem okL1.cons_r {a : Int} {b : List Int} (h : okL1 (a :: b)) : okL1 b := fun c hc => h c (.tail _ hc)
theorem cutA_encs {rs : List Int} (h : okL1 rs) : cutA (strL (encs rs)) hash = strL (encs (cutH rs)) := by
 rcases at_first 35 rs with h1 | ⟨a, b, rfl, h1⟩
 ·rw [cutH_none h1]; exact cutA_none (not_encs (x := 35) h (by omega) h1)
 ·rw [cutH_some h1, encs_app, encs_cons, enc_ascii (by omega) (by omega)]
  exact cutA_some (not_encs (x := 35) h.app_l (by omega) h1)
theorem cutH_sub (rs : List Int) : ∀ c ∈ cutH rs, c ∈ rs := fun _ hc => (List.takeWhile_sublist _).subset hc
theorem scanWords_encs {rs : List Int} (h : okL1 rs) : scanWords (strL (encs rs)) = (lineW rs).map runesBytes := by
 unfold scanWords lineW
 rw [cutA_encs h]
 have hsp : (⟨#[32]⟩ : ByteArray) = strL (encodeRune 32) := rfl
 have hcat : strL (encs (cutH rs)) ++ (⟨#[32]⟩ : ByteArray) = strL (encs (cutH rs ++ [32])) := by rw [hsp, strL_app, encs_app]; rfl
 rw [hcat]
 have hok : okL1 (cutH rs ++ [32]) := fun c hc => by
  rcases List.mem_append.1 hc with hc | hc
  ·exact h c (cutH_sub _ c hc)
  ·rw [List.mem_singleton.1 hc]; exact .inl ⟨by omega, by omega⟩
 exact wdGo_encs (out := []) (word := []) hok (qg _) (by rw [strL_list]; rfl)
def splitR : List Int → List (List Int)
 | [] => [[]]
 | c :: rs => if c = 10 then [] :: splitR rs else match splitR rs with
  | [] => [[c]]
  | l :: ls => (c :: l) :: ls
theorem splitR_none : ∀ {rs : List Int}, (10 : Int) ∉ rs → splitR rs = [rs]
 | [], _ => rfl
 | c :: rs, h => by
  have hc : ¬ c = 10 := fun e => h (e ▸ .head _)
  rw [splitR, if_neg hc, splitR_none fun hm => h (.tail _ hm)]
theorem splitR_some {r : List Int} : ∀ {l : List Int}, (10 : Int) ∉ l → splitR (l ++ 10 :: r) = l :: splitR r
 | [], _ => by rw [List.nil_append, splitR, if_pos rfl]
 | c :: l, h => by
  have hc : ¬ c = 10 := fun e => h (e ▸ .head _)
  rw [List.cons_append, splitR, if_neg hc, splitR_some fun hm => h (.tail _ hm)]
theorem splitL_encs : ∀ (n : Nat) (rs : List Int), rs.length ≤ n → okL1 rs → splitL (strL (encs rs)) nl = (splitR rs).map fun l => strL (encs l)
 | n, rs, hn, h => by
  rcases at_first 10 rs with h1 | ⟨a, b, rfl, h1⟩
  ·rw [splitR_none h1, splitL_none (not_encs (x := 10) h (by omega) h1)]; rfl
  ·rw [splitR_some h1, encs_app, encs_cons, enc_ascii (by omega) (by omega)]
   have := splitL_some (r := encs b) (not_encs (x := 10) h.app_l (by omega) h1)
   refine this.trans ?_
   cases n with
   | zero => simp at hn
   | succ n => rw [splitL_encs n b (by simp at hn; omega) h.app_r.cons_r]; rfl
theorem splitR_ok : ∀ {rs : List Int}, okL1 rs → ∀ l ∈ splitR rs, okL1 l
 | [], _, l, hl => by rw [splitR] at hl; rw [List.mem_singleton.1 hl]; exact fun c hc => (by cases hc)
 | c :: rs, h, l, hl => by
  have ih := splitR_ok h.cons_r
  rw [splitR] at hl
  split at hl
  ·rcases List.mem_cons.1 hl with rfl | hl
   ·exact fun c hc => (by cases hc)
   ·exact ih l hl
  ·split at hl
   ·rw [List.mem_singleton.1 hl]; exact fun x hx => h x (by rw [List.mem_singleton.1 hx]; exact .head _)
   ·rename_i l0 ls he
    rcases List.mem_cons.1 hl with rfl | hl
    ·intro x hx
     rcases List.mem_cons.1 hx with rfl | hx
     ·exact h x (.head _)
     ·exact ih l0 (by rw [he]; exact .head _) x hx
    ·exact ih l (by rw [he]; exact .tail _ hl)
def textW (rs : List Int) : List (List (List Int)) := ((splitR rs).map lineW).filter fun l => !l.isEmpty
theorem lineGo_snd : ∀ (ls : List (List Int)) (i : Nat), (∀ l ∈ ls, okL1 l) → (lineGo (ls.map fun l => strL (encs l)) i).map (·.2) = ((ls.map lineW).filter fun l => !l.isEmpty).map fun l => l.map runesBytes
 | [], _, _ => rfl
 | l :: ls, i, h => by
  have ih := lineGo_snd ls (i + 1) (fun x hx => h x (.tail _ hx))
  rw [List.map_cons, lineGo, scanWords_encs (h l (.head _))]
  rw [List.map_cons, List.filter_cons]
  cases hw : lineW l with
  | nil => simpa using ih
  | cons w ws =>
   rw [if_neg (by simp), if_pos (by simp), List.map_cons, List.map_cons, ih]
   rfl
theorem scanLines_encs {rs : List Int} (h : okL1 rs) : (scanLines (strL (encs rs))).map (·.2) = (textW rs).map fun l => l.map runesBytes := by
 unfold scanLines textW
 rw [splitL_encs rs.length rs (Nat.le_refl _) h]
 exact lineGo_snd _ _ (splitR_ok h)
theorem rightE_encs {rs : List Int} (h : okL1 rs) : rightE (strL (encs rs)) = if 16384 < (encs rs).length then 4 else if rs.all lineC = true then 0 else 2 := by
 unfold rightE
 rw [strL_size, strL_list, valid_encs h, if_neg (show ¬ (true = false) by simp), runes_encs h (qg _) (by rw [strL_list]; rfl)]
theorem run_snd : ∀ {ls ls' : List PLine} (S : PProg), ls.map (·.2) = ls'.map (·.2) → runLines S ls = runLines S ls'
 | [], [], _, _ => rfl
 | [], _ :: _, _, h => by cases h
 | _ :: _, [], _, h => by cases h
 | l :: ls, l' :: ls', S, h => by
  simp only [List.map_cons, List.cons.injEq] at h
  rw [runLines, runLines, h.1]
  cases lineP S l'.2 with
  | none => rfl
  | some S' => exact run_snd S' h.2
theorem readP_snd {ls ls' : List PLine} (h : ls.map (·.2) = ls'.map (·.2)) : readP ls = readP ls' := by
 cases ls with
 | nil => cases ls' with
  | nil => rfl
  | cons _ _ => cases h
 | cons l ls => cases ls' with
  | nil => cases h
  | cons l' ls' =>
   simp only [List.map_cons, List.cons.injEq] at h
   show (if atW l.2 0 = funcS then (tgt l ls).bind endP else none) = (if atW l'.2 0 = funcS then (tgt l' ls').bind endP else none)
   unfold tgt
   rw [h.1, run_snd (start l'.2) h.2]
def wline (w : List ByteArray) : PLine := (0, w)
def readW (ws : List (List ByteArray)) : Option PProg := readP (ws.map wline)
theorem readP_W (ls : List PLine) : readP ls = readW (ls.map (·.2)) := readP_snd (by simp [wline, Function.comp_def])
end Go.Proofs.YtbkgklpihnfnjaaGreatDoor
namespace Go.Proofs.YtbkgklpihnfnjaaGreatDoor
open Go.Proofs.Tryz
open Go.Proofs Go.Lib Go.Shelf Go.RowKit
set_option maxRecDepth 20000
def wC (c : Int) : Prop := c ≠ 32 ∧ c ≠ 10 ∧ c ≠ 35 ∧ lineC c = true
structure okRs (rs : List Int) : Prop where
 ok : okL1 rs
 ne : rs ≠ []
 cs : ∀ c ∈ rs, wC c
def okW (w : ByteArray) : Prop := ∃ rs, w = strL (encs rs) ∧ okRs rs
theorem okW.app {a b : ByteArray} (ha : okW a) (hb : okW b) : okW (a ++ b) := by
 obtain ⟨ra, rfl, h1, h2, h3⟩ := ha
 obtain ⟨rb, rfl, g1, g2, g3⟩ := hb
 refine ⟨ra ++ rb, by rw [strL_app, encs_app], fun c hc => ?_, by simp [h2], fun c hc => ?_⟩
 ·rcases List.mem_append.1 hc with hc | hc
  ·exact h1 c hc
  ·exact g1 c hc
 ·rcases List.mem_append.1 hc with hc | hc
  ·exact h3 c hc
  ·exact g3 c hc
def asciiW (l : List UInt8) : Bool := !l.isEmpty && l.all fun b => decide (33 ≤ b.toNat) && (decide (b.toNat < 127) && !decide (b.toNat = 35))
theorem encs_ascii : ∀ {l : List UInt8}, (∀ b ∈ l, b.toNat < 128) → encs (l.map fun b => (b.toNat : Int)) = l
 | [], _ => rfl
 | b :: l, h => by
  have hb := h b (.head _)
  rw [List.map_cons, encs_cons, enc_ascii (by omega) (by omega), encs_ascii fun x hx => h x (.tail _ hx), Int.toNat_natCast]
  simp [Nat.toUInt8]
theorem okW_ascii {l : List UInt8} (h : asciiW l = true) : okW (strL l) := by
 unfold asciiW at h
 simp only [qs, List.all_eq_true, qu, Bool.not_eq_true', decide_eq_false_iff_not] at h
 obtain ⟨h1, h2⟩ := h
 refine ⟨l.map fun b => (b.toNat : Int), by rw [encs_ascii fun b hb => by have := h2 b hb; omega], fun c hc => ?_, ?_, fun c hc => ?_⟩
 ·obtain ⟨b, hb, rfl⟩ := List.mem_map.1 hc
  have := h2 b hb
  exact .inl ⟨by omega, by omega⟩
 ·intro e
  have : l = [] := List.map_eq_nil_iff.1 e
  subst this; cases h1
 ·obtain ⟨b, hb, rfl⟩ := List.mem_map.1 hc
  have := h2 b hb
  exact ⟨by omega, by omega, by omega, by unfold lineC; simp; omega⟩
theorem okW.ne {w : ByteArray} (h : okW w) : w ≠ ⟨#[]⟩ := by
 obtain ⟨rs, rfl, h1, h2, _⟩ := h
 intro e
 have he := congrArg ByteArray.size e
 rw [strL_size] at he
 cases rs with
 | nil => exact h2 rfl
 | cons c rs => rw [encs_cons, qj] at he; have := enc_len c; change _ = 0 at he; omega
def lineS (l : List ByteArray) : ByteArray := joinS l ⟨#[32]⟩
def unB : List (List ByteArray) → ByteArray
 | [] => ⟨#[]⟩
 | l :: ls => (lineS l ++ nl) ++ unB ls
def joinR : List (List Int) → List Int
 | [] => []
 | [w] => w
 | w :: ws => w ++ 32 :: joinR ws
def unR : List (List (List Int)) → List Int
 | [] => []
 | l :: ls => (joinR l ++ [10]) ++ unR ls
theorem joinR_cons {w v : List Int} {ws : List (List Int)} : joinR (w :: v :: ws) = w ++ 32 :: joinR (v :: ws) := rfl
theorem joinTail_cons (sep x : List UInt8) (r : List (List UInt8)) : Lib.joinTail sep (x :: r) = sep ++ x ++ Lib.joinTail sep r := rfl
theorem join_encs : ∀ (ws : List (List Int)), Lib.join (ws.map encs) [32] = encs (joinR ws)
 | [] => rfl
 | [w] => by rw [List.map_cons, List.map_nil, join_one]; rfl
 | w :: v :: ws => by
  have ih := join_encs (v :: ws)
  rw [List.map_cons, join_cons] at ih
  rw [List.map_cons, List.map_cons, join_cons, joinTail_cons, joinR_cons, encs_app, encs_cons, ← ih]
  rw [enc_ascii (by omega) (by omega)]
  simp
theorem lineS_encs (ws : List (List Int)) : lineS (ws.map fun w => strL (encs w)) = strL (encs (joinR ws)) := by
 unfold lineS joinS
 rw [List.map_map]
 have : (ws.map ((fun w : ByteArray => w.data.toList) ∘ fun w => strL (encs w))) = ws.map encs := List.map_congr_left fun w _ => strL_list _
 rw [this]
 show strL (Lib.join (ws.map encs) [32]) = _
 rw [join_encs]
theorem unB_encs : ∀ (ls : List (List (List Int))), unB (ls.map fun l => l.map fun w => strL (encs w)) = strL (encs (unR ls))
 | [] => rfl
 | l :: ls => by
  have hnl : nl = strL (encs [10]) := rfl
  rw [List.map_cons, unB, lineS_encs, unB_encs ls, hnl, strL_app, strL_app, unR, encs_app, encs_app]
theorem words_ex : ∀ {l : List ByteArray}, (∀ w ∈ l, okW w) → ∃ rs : List (List Int), l = rs.map (fun w => strL (encs w)) ∧ ∀ r ∈ rs, okRs r
 | [], _ => ⟨[], rfl, by simp⟩
 | w :: l, h => by
  obtain ⟨r, e, hr⟩ := h w (.head _)
  obtain ⟨rs, e2, hrs⟩ := words_ex fun x hx => h x (.tail _ hx)
  refine ⟨r :: rs, by rw [e, e2]; rfl, fun x hx => ?_⟩
  rcases List.mem_cons.1 hx with rfl | hx
  ·exact hr
  ·exact hrs x hx
theorem lines_ex : ∀ {ls : List (List ByteArray)}, (∀ l ∈ ls, l ≠ [] ∧ ∀ w ∈ l, okW w) → ∃ rs : List (List (List Int)), ls = rs.map (fun l => l.map fun w => strL (encs w)) ∧ ∀ l ∈ rs, l ≠ [] ∧ ∀ r ∈ l, okRs r
 | [], _ => ⟨[], rfl, by simp⟩
 | l :: ls, h => by
  obtain ⟨hne, hw⟩ := h l (.head _)
  obtain ⟨r, e, hr⟩ := words_ex hw
  obtain ⟨rs, e2, hrs⟩ := lines_ex fun x hx => h x (.tail _ hx)
  refine ⟨r :: rs, by rw [e2, e]; rfl, fun x hx => ?_⟩
  rcases List.mem_cons.1 hx with rfl | hx
  ·exact ⟨fun e3 => by subst e3; exact hne e, hr⟩
  ·exact hrs x hx
theorem joinR_mem : ∀ {ws : List (List Int)} {c : Int}, c ∈ joinR ws → c = 32 ∨ ∃ w ∈ ws, c ∈ w
 | [], c, h => by cases h
 | [w], c, h => .inr ⟨w, .head _, h⟩
 | w :: v :: ws, c, h => by
  rw [joinR_cons] at h
  rcases List.mem_append.1 h with h | h
  ·exact .inr ⟨w, .head _, h⟩
  ·rcases List.mem_cons.1 h with h | h
   ·exact .inl h
   ·rcases joinR_mem h with h | ⟨x, hx, h⟩
    ·exact .inl h
    ·exact .inr ⟨x, .tail _ hx, h⟩
theorem wdL_word : ∀ {w : List Int} (rest : List Int) (cur : List Int), (∀ c ∈ w, c ≠ 32) → wdL (w ++ rest) [] cur = wdL rest [] (cur ++ w)
 | [], rest, cur, _ => by simp
 | c :: w, rest, cur, h => by
  rw [List.cons_append, wdL, if_neg (h c (.head _)), wdL_word rest (cur ++ [c]) fun x hx => h x (.tail _ hx)]
  simp
theorem wdL_end {w : List Int} (rest : List Int) (hne : w ≠ []) (h : ∀ c ∈ w, c ≠ 32) : wdL (w ++ 32 :: rest) [] [] = w :: wdL rest [] [] := by
 rw [wdL_word _ _ h, List.nil_append, wdL, if_pos rfl, if_neg hne, wdL_out]; rfl
theorem wdL_join : ∀ {ws : List (List Int)}, (∀ w ∈ ws, okRs w) → wdL (joinR ws ++ [32]) [] [] = ws
 | [], _ => by rw [joinR, List.nil_append, wdL, if_pos rfl, if_pos rfl]; rfl
 | [w], h => by
  have hw := h w (.head _)
  rw [joinR, wdL_end [] hw.2 (fun c hc => (hw.3 c hc).1)]; rfl
 | w :: v :: ws, h => by
  have hw := h w (.head _)
  rw [joinR_cons, qf, List.cons_append, wdL_end _ hw.2 (fun c hc => (hw.3 c hc).1), wdL_join fun x hx => h x (.tail _ hx)]
theorem lineW_join {ws : List (List Int)} (h : ∀ w ∈ ws, okRs w) : lineW (joinR ws) = ws := by
 unfold lineW
 rw [cutH_none, wdL_join h]
 intro hm
 rcases joinR_mem hm with h1 | ⟨w, hw, h1⟩
 ·omega
 ·exact ((h w hw).3 _ h1).2.2.1 rfl
theorem splitR_un : ∀ {ls : List (List (List Int))}, (∀ l ∈ ls, ∀ r ∈ l, okRs r) → splitR (unR ls) = ls.map joinR ++ [[]]
 | [], _ => rfl
 | l :: ls, h => by
  have hn : (10 : Int) ∉ joinR l := fun hm => by
   rcases joinR_mem hm with h1 | ⟨w, hw, h1⟩
   ·omega
   ·exact ((h l (.head _) w hw).3 _ h1).2.1 rfl
  rw [unR, qf, List.singleton_append, splitR_some hn, splitR_un fun x hx => h x (.tail _ hx)]; rfl
theorem textW_un {ls : List (List (List Int))} (h : ∀ l ∈ ls, l ≠ [] ∧ ∀ r ∈ l, okRs r) : textW (unR ls) = ls := by
 unfold textW
 rw [splitR_un fun l hl => (h l hl).2, qo, List.map_map, List.filter_append]
 have h1 : ls.map (lineW ∘ joinR) = ls := by
  conv => rhs; rw [← List.map_id ls]
  exact List.map_congr_left fun l hl => lineW_join (h l hl).2
 rw [h1]
 have h2 : ls.filter (fun l => !l.isEmpty) = ls := List.filter_eq_self.2 fun l hl => by have := (h l hl).1; cases l <;> simp_all
 rw [h2]
 simp [lineW, cutH, wdL]
theorem joinR_ok {ws : List (List Int)} (h : ∀ w ∈ ws, okRs w) : okL1 (joinR ws) ∧ ∀ c ∈ joinR ws, lineC c = true := by
 constructor
 ·intro c hc
  rcases joinR_mem hc with h1 | ⟨w, hw, h1⟩
  ·rw [h1]; exact .inl ⟨by omega, by omega⟩
  ·exact (h w hw).1 c h1
 ·intro c hc
  rcases joinR_mem hc with h1 | ⟨w, hw, h1⟩
  ·rw [h1]; decide
  ·exact ((h w hw).3 c h1).2.2.2
theorem unR_ok : ∀ {ls : List (List (List Int))}, (∀ l ∈ ls, ∀ r ∈ l, okRs r) → okL1 (unR ls) ∧ (unR ls).all lineC = true
 | [], _ => ⟨fun c hc => (by cases hc), rfl⟩
 | l :: ls, h => by
  obtain ⟨h1, h2⟩ := joinR_ok (h l (.head _))
  obtain ⟨h3, h4⟩ := unR_ok (ls := ls) fun x hx => h x (.tail _ hx)
  rw [unR]
  constructor
  ·intro c hc
   rcases List.mem_append.1 hc with hc | hc
   ·rcases List.mem_append.1 hc with hc | hc
    ·exact h1 c hc
    ·rw [List.mem_singleton.1 hc]; exact .inl ⟨by omega, by omega⟩
   ·exact h3 c hc
  ·rw [List.all_append, List.all_append, h4, List.all_eq_true.2 h2]; decide
theorem un_lines {ls : List (List ByteArray)} (h : ∀ l ∈ ls, l ≠ [] ∧ ∀ w ∈ l, okW w) (hsz : (unB ls).size ≤ 16384) : rightE (unB ls) = 0 ∧ (linesOf (unB ls)).map (·.2) = ls := by
 obtain ⟨rs, rfl, hrs⟩ := lines_ex h
 obtain ⟨h1, h2⟩ := unR_ok fun l hl => (hrs l hl).2
 rw [unB_encs] at hsz ⊢
 rw [strL_size] at hsz
 have hr : rightE (strL (encs (unR rs))) = 0 := by rw [rightE_encs h1, if_neg (by omega), if_pos h2]
 refine ⟨hr, ?_⟩
 unfold linesOf
 rw [if_pos hr, scanLines_encs h1, textW_un hrs]
 exact List.map_congr_left fun l hl => List.map_congr_left fun w hw => runesBytes_encs ((hrs l hl).2 w hw).1
theorem parseU_dec : ∀ (n u : Nat), u ≤ n → u ≤ 18446744073709551615 → ∀ r, parseUintM (2 ^ 64 - 1) 0 (decDigits u ++ r) = parseUintM (2 ^ 64 - 1) u r := by
 intro n
 induction n with
 | zero =>
  intro u h _ r
  obtain rfl : u = 0 := by omega
  rw [decDigits, dif_pos (by omega), List.singleton_append, parseUintM]
  rfl
 | succ n ih =>
  intro u h hu r
  have hb : ∀ d : Nat, d < 10 → (UInt8.ofNat (48 + d)).toNat = 48 + d := fun d hd => by rw [UInt8.toNat_ofNat']; omega
  rw [decDigits]
  by_cases h10 : u < 10
  ·rw [dif_pos h10, List.singleton_append, parseUintM, hb u h10, if_pos (by omega), if_neg (by omega), if_neg (by omega)]
   congr 1; omega
  ·rw [dif_neg h10, qf, ih (u / 10) (by omega) (by omega), List.singleton_append, parseUintM, hb (u % 10) (by omega), if_pos (by omega), if_neg (by omega), if_neg (by omega)]
   congr 1; omega
theorem dec_ne (u : Nat) : ∃ c r, decDigits u = c :: r ∧ 48 ≤ c.toNat ∧ c.toNat ≤ 57 := by
 have key : ∀ n u, u ≤ n → ∃ c r, decDigits u = c :: r ∧ 48 ≤ c.toNat ∧ c.toNat ≤ 57 := by
  intro n
  induction n with
  | zero =>
   intro u h
   obtain rfl : u = 0 := by omega
   exact ⟨48, [], by rw [decDigits, dif_pos (by omega)]; rfl, by decide, by decide⟩
  | succ n ih =>
   intro u h
   rw [decDigits]
   by_cases h10 : u < 10
   ·rw [dif_pos h10]
    have : (UInt8.ofNat (48 + u)).toNat = 48 + u := by rw [UInt8.toNat_ofNat']; omega
    exact ⟨_, _, rfl, by omega, by omega⟩
   ·rw [dif_neg h10]
    obtain ⟨c, r, e, h1, h2⟩ := ih (u / 10) (by omega)
    rw [e]; exact ⟨c, _, rfl, h1, h2⟩
 exact key u u (Nat.le_refl _)
theorem pint_itoa {n : Int} (h : -9223372036854775808 ≤ n ∧ n ≤ 9223372036854775807) : pint (strL (itoa n)) = some n := by
 have hu : ∀ u : Nat, u ≤ 18446744073709551615 → parseUintB 64 (decDigits u) = .ok u := fun u hu => by
  obtain ⟨c, r, e, _⟩ := dec_ne u
  unfold parseUintB
  rw [if_neg (by rw [e]; simp)]
  have := parseU_dec u u (Nat.le_refl _) hu []
  rw [List.append_nil] at this
  rw [this]; rfl
 unfold pint
 rw [strL_list]
 unfold itoa
 by_cases h0 : n < 0
 ·rw [if_pos h0, parseIntB_minus, hu _ (by omega)]
  have hc : signedC (2 ^ (64 - 1)) (.ok n.natAbs) = .ok (-(n.natAbs : Int)) := by
   show (if 2 ^ (64 - 1) < n.natAbs then NumEnd.range else NumEnd.ok (-(n.natAbs : Int))) = _
   have h63 : (2 ^ (64 - 1) : Nat) = 9223372036854775808 := by decide
   rw [if_neg (by omega)]
  rw [hc]
  show some (-(n.natAbs : Int)) = some n
  congr 1; omega
 ·rw [if_neg h0]
  obtain ⟨c, r, e, h1, h2⟩ := dec_ne n.toNat
  rw [e, parseIntB_plain _ _ _ (by omega) (by omega), ← e, hu _ (by omega)]
  have hc : signlessC (2 ^ (64 - 1)) (.ok n.toNat) = .ok (n.toNat : Int) := by
   show (if 2 ^ (64 - 1) ≤ n.toNat then NumEnd.range else NumEnd.ok (n.toNat : Int)) = _
   have h63 : (2 ^ (64 - 1) : Nat) = 9223372036854775808 := by decide
   rw [if_neg (by omega)]
  rw [hc]
  show some (n.toNat : Int) = some n
  congr 1; omega
end Go.Proofs.YtbkgklpihnfnjaaGreatDoor
namespace Go.Proofs.YtbkgklpihnfnjaaGreatDoor
open Go.Proofs.Tryz
open Go.Proofs Go.Lib Go.Shelf Go.RowKit
set_option maxRecDepth 20000
theorem valid_runes (s : ByteArray) : ∀ (n p : Nat), s.size - p ≤ n → (∀ r ∈ runesFrom s p, r ≠ 65533) → validD (s.data.toList.drop p) = true := by
 have h2 : s.data.toList.length = s.size := Array.length_toList
 intro n
 induction n with
 | zero => intro p h _; rw [List.drop_eq_nil_of_le (by omega)]; rfl
 | succ n ih =>
  intro p h hr
  by_cases hlt : p < s.size
  ·have hd := (decode_ok s p).1
   rw [runesFrom_lt hlt] at hr
   have hne : s.data.toList.drop p ≠ [] := fun e => by have := congrArg List.length e; rw [List.length_drop] at this; simp only [List.length_nil] at this; omega
   rw [validD_step _ hne, decodeL_drop, if_neg (by rintro ⟨h3, _⟩; exact hr _ (.head _) (by rw [h3]; rfl)), List.drop_drop]
   exact ih _ (by omega) fun r hm => hr r (.tail _ hm)
  ·rw [List.drop_eq_nil_of_le (by omega)]; rfl
theorem low_letters : ∀ n : Nat, n < 65 → isLetterU (n : Int) = false := by decide
theorem inner_ge {c : Int} (h0 : 0 ≤ c) (h : innerC c = true) : (65 ≤ c ∨ (48 ≤ c ∧ c ≤ 57) ∨ c = 46) ∧ c ≠ 65533 := by
 unfold innerC at h
 have hl : letterC c = true → 65 ≤ c ∧ c ≠ 65533 := fun h1 => by
  unfold letterC at h1
  simp only [qs, Bool.not_eq_true', decide_eq_false_iff_not] at h1
  refine ⟨?_, h1.2⟩
  rcases Int.lt_or_le c 65 with h2 | h2
  ·obtain ⟨n, rfl⟩ : ∃ n : Nat, c = n := ⟨c.toNat, by omega⟩
   rw [low_letters n (by omega)] at h1
   cases h1.1
  ·exact h2
 rcases Bool.or_eq_true_iff.1 h with h1 | h1
 ·have := hl h1; omega
 ·unfold digitC at h1; simp at h1; omega
theorem name_runes {s : ByteArray} (h : scanName s = true) : ∃ rs, s = strL (encs rs) ∧ okL1 rs ∧ rs ≠ [] ∧ ∀ c ∈ rs, 0 ≤ c ∧ (65 ≤ c ∨ (48 ≤ c ∧ c ≤ 57) ∨ c = 46) := by
 rw [scanName_R] at h
 have hin : ∀ r ∈ runesFrom s 0, innerC r = true := by
  cases hr : runesFrom s 0 with
  | nil => simp
  | cons c rs =>
   rw [hr] at h
   unfold nameR at h
   simp only [qs, List.all_eq_true] at h
   intro r hm
   rcases List.mem_cons.1 hm with rfl | hm
   ·exact letter_inner h.1
   ·exact h.2.1 r hm
 have hpos : ∀ (n p : Nat), s.size - p ≤ n → ∀ r ∈ runesFrom s p, 0 ≤ r := by
  intro n
  induction n with
  | zero => intro p hp r hm; rw [runesFrom_ge (by omega)] at hm; cases hm
  | succ n ih =>
   intro p hp r hm
   by_cases hlt : p < s.size
   ·have hd := (decode_ok s p).1
    rw [runesFrom_lt hlt] at hm
    rcases List.mem_cons.1 hm with rfl | hm
    ·omega
    ·exact ih _ (by omega) r hm
   ·rw [runesFrom_ge hlt] at hm; cases hm
 have hp := hpos _ 0 (Nat.le_refl _)
 have hv := valid_runes s _ 0 (Nat.le_refl _) fun r hm => (inner_ge (hp r hm) (hin r hm)).2
 rw [List.drop_zero] at hv
 obtain ⟨rs, h1, h2⟩ := encs_of_valid _ _ (Nat.le_refl _) hv
 have hrs : runesFrom s 0 = rs := runes_encs h2 (qg _) (by rw [List.drop_zero]; exact h1)
 refine ⟨rs, by rw [← h1, strL_of], h2, ?_, fun c hc => ?_⟩
 ·intro e; rw [hrs, e] at h; cases h
 ·rw [hrs] at hin hp; exact ⟨hp c hc, (inner_ge (hp c hc) (hin c hc)).1⟩
theorem name_okW {s : ByteArray} (h : scanName s = true) : okW s := by
 obtain ⟨rs, h1, h2, h3, h4⟩ := name_runes h
 exact ⟨rs, h1, h2, h3, fun c hc => ⟨by have := h4 c hc; omega, by have := h4 c hc; omega, by have := h4 c hc; omega, by have := h4 c hc; unfold lineC; simp; omega⟩⟩
theorem name_no {s : ByteArray} (h : scanName s = true) {x : Nat} (hx : x < 128) (hn : ¬ (65 ≤ x ∨ (48 ≤ x ∧ x ≤ 57) ∨ x = 46)) : ∃ l : List UInt8, s = strL l ∧ x.toUInt8 ∉ l := by
 obtain ⟨rs, h1, h2, h3, h4⟩ := name_runes h
 exact ⟨encs rs, h1, not_encs h2 hx fun hm => hn (by have := h4 _ hm; omega)⟩
theorem name_ne {s : ByteArray} (h : scanName s = true) : s ≠ ⟨#[]⟩ := (name_okW h).ne
theorem name_ne_eq {s : ByteArray} (h : scanName s = true) : s ≠ eqS := fun e => by
 obtain ⟨l, h1, h2⟩ := name_no h (x := 61) (by omega) (by omega)
 have : l = [61] := strL_inj (h1.symm.trans e)
 subst this
 exact h2 (.head _)
theorem eq_not_name : scanName eqS = false := by
 cases h : scanName eqS with
 | false => rfl
 | true => exact absurd rfl (name_ne_eq h)
def pairW (v : PVar) : ByteArray := (v.name ++ colon) ++ tyWord v.ty
theorem cut_colon {l r : List UInt8} (h : (58 : UInt8) ∉ l) : cutA (strL (l ++ 58 :: r)) colon = strL l ∧ cutB2 (strL (l ++ 58 :: r)) colon = strL r ∧ cutT (strL (l ++ 58 :: r)) colon = true := by
 have hi : indexB (strL (l ++ 58 :: r)) colon = (l.length : Int) := by show index (strL (l ++ 58 :: r)).data.toList [58] = _; rw [strL_list, index_one, idxB_some h]
 obtain ⟨h1, h2, h3⟩ := cutB_hit _ _ _ hi
 refine ⟨h1.trans (extract_left _ _), h2.trans ?_, h3⟩
 have e : l ++ 58 :: r = (l ++ [58]) ++ r := by simp
 have e2 : l.length + colon.size = (l ++ [58]).length := by rw [qj]; rfl
 rw [e2, e, extract_right]
theorem ty_words : ∀ t : Int, 0 ≤ t ∧ t ≤ 2 → tyOf (tyWord t) = t ∧ isTy (tyWord t) = true ∧ ∃ l, tyWord t = strL l ∧ asciiW l = true := fun t h => by
 have : t = 0 ∨ t = 1 ∨ t = 2 := by omega
 rcases this with rfl | rfl | rfl
 ·exact ⟨by decide, by decide, _, rfl, by decide⟩
 ·exact ⟨by decide, by decide, _, rfl, by decide⟩
 ·exact ⟨by decide, by decide, _, rfl, by decide⟩
theorem pair_read {v : PVar} (hn : scanName v.name = true) (ht : 0 ≤ v.ty ∧ v.ty ≤ 2) : varOk (pairW v) = true ∧ varOf (pairW v) = v := by
 obtain ⟨l, h1, h2⟩ := name_no hn (x := 58) (by omega) (by omega)
 obtain ⟨t1, t2, r, t3, _⟩ := ty_words v.ty ht
 have hw : pairW v = strL (l ++ 58 :: r) := by
  unfold pairW
  have hc : colon = strL [58] := rfl
  rw [h1, t3, hc, strL_app, strL_app]; simp
 obtain ⟨c1, c2, c3⟩ := cut_colon (r := r) h2
 have hok : pairOk (pairW v) = true := by unfold pairOk; rw [hw, c3, c1, ← h1, hn]; rfl
 have hA : pairA (pairW v) = v.name := by unfold pairA; rw [if_pos hok, hw, c1, ← h1]
 have hB : pairB (pairW v) = tyWord v.ty := by unfold pairB; rw [if_pos hok, hw, c2, ← t3]
 refine ⟨by unfold varOk; rw [hok, hB, t2]; rfl, ?_⟩
 unfold varOf; rw [hA, hB, t1]
theorem pair_okW {v : PVar} (hn : scanName v.name = true) (ht : 0 ≤ v.ty ∧ v.ty ≤ 2) : okW (pairW v) := by
 obtain ⟨_, _, r, t3, t4⟩ := ty_words v.ty ht
 unfold pairW
 rw [t3]
 exact ((name_okW hn).app (okW_ascii (l := [58]) (by decide))).app (okW_ascii t4)
theorem pairs_read : ∀ {l : List PVar}, (∀ v ∈ l, scanName v.name = true ∧ 0 ≤ v.ty ∧ v.ty ≤ 2) → varsOk (l.map pairW) = true ∧ varsOf (l.map pairW) = l := fun {l} h => by
 have h1 : varsOk (l.map pairW) = true := by
  unfold varsOk
  rw [List.all_map]
  exact List.all_eq_true.2 fun v hv => (pair_read (h v hv).1 (h v hv).2).1
 refine ⟨h1, ?_⟩
 unfold varsOf
 rw [if_pos h1, List.map_map]
 conv => rhs; rw [← List.map_id l]
 exact List.map_congr_left fun v hv => (pair_read (h v hv).1 (h v hv).2).2
end Go.Proofs.YtbkgklpihnfnjaaGreatDoor
namespace Go.Proofs.YtbkgklpihnfnjaaGreatDoor
open Go.Proofs.Tryz
open Go.Proofs Go.Lib Go.Shelf Go.RowKit
set_option maxRecDepth 20000
structure FOk (f : PFunc) : Prop where
 vars : ∀ v ∈ f.vars, scanName v.name = true ∧ 0 ≤ v.ty ∧ v.ty ≤ 2
 blks : ∀ b ∈ f.blocks, scanName b.name = true ∧ BlkP f b
theorem vname_ok {f : PFunc} (hf : FOk f) {v : Int} (h : hasV f v = true) : scanName (vname f v) = true := by
 obtain ⟨h1, _, _, h2⟩ := has_get h
 rw [h2]; exact (hf.vars _ (qh h1)).1
theorem bname_ok {f : PFunc} (hf : FOk f) {v : Int} (h : hasB f v = true) : scanName (bname f v) = true := by
 obtain ⟨h1, _, _, h2⟩ := hasB_get h
 rw [h2]; exact (hf.blks _ (qh h1)).1
theorem namesOk_map {α : Type} {g : α → ByteArray} {l : List α} (h : ∀ x ∈ l, scanName (g x) = true) : namesOk (l.map g) = true := by
 unfold namesOk
 rw [List.all_map]
 exact List.all_eq_true.2 h
def inter : List ByteArray → List ByteArray → List ByteArray
 | a :: l, b :: m => a :: b :: inter l m
 | _, _ => []
theorem inter_ok : ∀ {l m : List ByteArray}, l.length = m.length → evens (inter l m) = l ∧ odds (inter l m) = m ∧ (inter l m).length = 2 * l.length
 | [], [], _ => ⟨rfl, rfl, rfl⟩
 | [], _ :: _, h => by cases h
 | _ :: _, [], h => by cases h
 | a :: l, b :: m, h => by
  obtain ⟨h1, h2, h3⟩ := inter_ok (l := l) (m := m) (by simpa using h)
  exact ⟨by rw [inter, evens, h1], by rw [inter, odds, h2], by rw [inter, List.length_cons, List.length_cons, List.length_cons, h3]; omega⟩
theorem inter_mem : ∀ {l m : List ByteArray} {x : ByteArray}, x ∈ inter l m → x ∈ l ∨ x ∈ m
 | [], _, x, h => by unfold inter at h; cases h
 | _ :: _, [], x, h => by unfold inter at h; cases h
 | a :: l, b :: m, x, h => by
  rw [inter] at h
  rcases List.mem_cons.1 h with rfl | h
  ·exact .inl (.head _)
  ·rcases List.mem_cons.1 h with rfl | h
   ·exact .inr (.head _)
   ·exact (inter_mem h).imp (fun h => .tail _ h) (fun h => .tail _ h)
def phiL (f : PFunc) (p : PPhi) : List ByteArray := vname f p.dst :: eqS :: phiS :: inter (p.from_.map (bname f)) (p.args.map (vname f))
def termL (f : PFunc) (t : PTerm) : List ByteArray :=
 if t.kind = 0 then [jumpS, bname f t.to0] else if t.kind = 1 then [ifS, vname f t.var, bname f t.to0, bname f t.to1] else [retS, vname f t.var]
def blkL (f : PFunc) (b : PBlock) : List (List ByteArray) := [blockS, b.name] :: (b.phis.map (phiL f) ++ (b.insts.map (wordsOf f) ++ [termL f b.term]))
def headL (f : PFunc) : List ByteArray := funcS :: (f.vars.take f.params.length).map pairW
def varL (v : PVar) : List ByteArray := [varS, pairW v]
def linesF (f : PFunc) : List (List ByteArray) := headL f :: ((f.vars.drop f.params.length).map varL ++ f.blocks.flatMap (blkL f))
def toPhi (f : PFunc) (p : PPhi) : PItem := .phi (vname f p.dst) (p.from_.map (bname f)) (p.args.map (vname f))
def toInst (f : PFunc) (x : PInst) : PItem := .inst x.op (if x.dst = -1 then ⟨#[]⟩ else vname f x.dst) (x.args.map (vname f)) x.num
def toHead (f : PFunc) (b : PBlock) : PHead :=
 if b.term.kind = 0 then ⟨b.name, 0, ⟨#[]⟩, [bname f b.term.to0], true⟩
 else if b.term.kind = 1 then ⟨b.name, 1, vname f b.term.var, [bname f b.term.to0, bname f b.term.to1], true⟩
 else ⟨b.name, 2, vname f b.term.var, [], true⟩
def toB (f : PFunc) (b : PBlock) : PHead × List PItem := (toHead f b, b.phis.map (toPhi f) ++ b.insts.map (toInst f))
def mkP (ps vs : List PVar) (bs : List (PHead × List PItem)) : PProg := ⟨ps, vs, bs.dropLast, bs.getLast?⟩
def progF (f : PFunc) : PProg := mkP (f.vars.take f.params.length) (f.vars.drop f.params.length) (f.blocks.map (toB f))
theorem notB_len {w : List ByteArray} (h : w.length ≠ 2) : isBlockLine w = false := by unfold isBlockLine; exact qr fun h2 => h h2.2.1
theorem notB_head {w : List ByteArray} (h : atW w 0 ≠ blockS) : isBlockLine w = false := by unfold isBlockLine; exact qr fun h2 => h h2.1
theorem namesOk_eq (l : List ByteArray) : namesOk (eqS :: l) = false := by unfold namesOk; rw [List.all_cons, eq_not_name]; rfl
theorem endB_eq {h : PHead} {a : ByteArray} {l : List ByteArray} : endB h (a :: eqS :: l) = none := by
 unfold endB
 rw [if_pos (.inr (by show ¬ namesOk (eqS :: l) = true; rw [namesOk_eq]; simp))]
theorem phi_line {f : PFunc} (hf : FOk f) {p : PPhi} (hp : PhiP f p) {h : PHead} (he : h.ended = false) {items : List PItem} (hi : ∀ x ∈ items, x.isPhi = true) :
  isBlockLine (phiL f p) = false ∧ lineB h items (phiL f p) = some (h, items ++ [toPhi f p]) := by
 obtain ⟨h1, h2, h3, h4, h5⟩ := hp
 have h4 := List.all_eq_true.1 h4
 have h5 := List.all_eq_true.1 h5
 obtain ⟨e1, e2, e3⟩ := inter_ok (l := p.from_.map (bname f)) (m := p.args.map (vname f)) (by simp [h2])
 rw [qk] at e3
 have hlen : (phiL f p).length = 2 * p.from_.length + 3 := by unfold phiL; rw [List.length_cons, List.length_cons, List.length_cons, e3]
 refine ⟨notB_len (by omega), ?_⟩
 have hend : endB h (phiL f p) = none := endB_eq
 have hnm : namesOk (inter (p.from_.map (bname f)) (p.args.map (vname f))) = true := List.all_eq_true.2 fun x hx => by
  rcases inter_mem hx with hx | hx
  ·obtain ⟨b, hb, rfl⟩ := List.mem_map.1 hx; exact bname_ok hf (h5 b hb)
  ·obtain ⟨a, ha, rfl⟩ := List.mem_map.1 hx; exact vname_ok hf (h4 a ha)
 have hphi : phiOk (inter (p.from_.map (bname f)) (p.args.map (vname f))) = true := by
  unfold phiOk
  rw [hnm, e3]
  have a1 : (2 : Int) ≤ ((2 * p.from_.length : Nat) : Int) := by omega
  have a2 : ((2 * p.from_.length : Nat) : Int).tmod 2 = 0 := (Int.ofNat_tmod (2 * p.from_.length) 2).symm.trans (by simp)
  rw [qq a1, qq a2]; rfl
 have hit : instrItem (phiL f p) = some (toPhi f p) := by
  unfold instrItem
  have b1 : atW (phiL f p) 1 = eqS := rfl
  have b0 : atW (phiL f p) 0 = vname f p.dst := rfl
  have b2 : atW (phiL f p) 2 = phiS := rfl
  rw [if_neg (by rintro (h | h); omega; exact h b1), if_neg (by rintro (h | h); exact h (by rw [b0]; exact vname_ok hf h1); omega), if_pos b2, b0]
  show phiItem (vname f p.dst) (inter (p.from_.map (bname f)) (p.args.map (vname f))) = _
  unfold phiItem
  rw [if_pos hphi, e1, e2]; rfl
 unfold lineB
 rw [if_neg (by rw [he]; simp), hend]
 dsimp only
 rw [hit]
 dsimp only
 rw [if_neg]
 rintro ⟨_, hl⟩
 cases hg : items.getLast? with
 | none => rw [hg] at hl; cases hl
 | some y =>
  rw [hg] at hl
  have := hi y (List.mem_of_getLast? hg)
  simp only [Option.map_some, Option.some.injEq] at hl
  rw [this] at hl; cases hl
theorem op_words : ∀ j : Nat, j < 27 → isOpW (kRow (j : Int)).1 = true ∧ opOf (kRow (j : Int)).1 = (j : Int) ∧ (kRow (j : Int)).1 ≠ jumpS ∧ (kRow (j : Int)).1 ≠ ifS ∧ (kRow (j : Int)).1 ≠ retS ∧ (kRow (j : Int)).1 ≠ blockS ∧ (kRow (j : Int)).1 ≠ phiS ∧ (isNum (j : Int) = true → makesB (j : Int) = true) := by decide
theorem op_word {op : Int} (h : 0 ≤ op ∧ op ≤ 26) : isOpW (kRow op).1 = true ∧ opOf (kRow op).1 = op ∧ (kRow op).1 ≠ jumpS ∧ (kRow op).1 ≠ ifS ∧ (kRow op).1 ≠ retS ∧ (kRow op).1 ≠ blockS ∧ (kRow op).1 ≠ phiS ∧ (isNum op = true → makesB op = true) := by
 obtain ⟨n, rfl⟩ : ∃ n : Nat, op = n := ⟨op.toNat, by omega⟩
 exact op_words n (by omega)
theorem endB_head {h : PHead} {w : List ByteArray} (h1 : atW w 0 ≠ jumpS) (h2 : atW w 0 ≠ ifS) (h3 : atW w 0 ≠ retS) : endB h w = none := by
 unfold endB
 split
 ·rfl
 ·rw [if_neg (fun h => h1 h.1), if_neg (fun h => h2 h.1), if_neg (fun h => h3 h.1)]
theorem inst_item {f : PFunc} (hf : FOk f) {x : PInst} (hx : InstF f x) (hI : -9223372036854775808 ≤ x.num ∧ x.num ≤ 9223372036854775807) :
  isBlockLine (wordsOf f x) = false ∧ (∀ h : PHead, endB h (wordsOf f x) = none) ∧ instrItem (wordsOf f x) = some (toInst f x) := by
 obtain ⟨w1, w2, w3, w4, w5, w6, w7, w8⟩ := op_word hx.op
 have hargs : namesOk (x.args.map (vname f)) = true := namesOk_map fun a ha => vname_ok hf (hx.args a ha)
 have hwo : wordsOf f x = words1 f x ++ [(kRow x.op).1] ++ x.args.map (vname f) ++ (if isNum x.op then [strL (itoa x.num)] else []) := by
  unfold wordsOf words2; rw [qi]; rfl
 rcases hx.dst with ⟨d1, d2⟩ | ⟨d1, d2, d3⟩
 ·have hn : isNum x.op = false := by
   cases h : isNum x.op with
   | false => rfl
   | true => rw [w8 h] at d1; cases d1
  have hw : wordsOf f x = (kRow x.op).1 :: x.args.map (vname f) := by
   rw [hwo, hn]; unfold words1; rw [if_neg (by omega)]; simp
  have h0 : atW (wordsOf f x) 0 = (kRow x.op).1 := by rw [hw]; rfl
  refine ⟨notB_head (by rw [h0]; exact w6), fun h => endB_head (by rw [h0]; exact w3) (by rw [h0]; exact w4) (by rw [h0]; exact w5), ?_⟩
  have hop : opItem ⟨#[]⟩ (wordsOf f x) = some (toInst f x) := by
   rw [hw]
   show opCons ⟨#[]⟩ (kRow x.op).1 (x.args.map (vname f)) = _
   unfold opCons
   rw [w2, if_pos ⟨w1, by rw [d1]; rfl⟩, if_neg (by rw [hn]; simp), if_pos ⟨by rw [qk]; exact hx.len, hargs⟩]
   unfold toInst
   rw [if_pos d2, hx.num hn]
  unfold instrItem
  rw [if_pos, hop]
  by_cases hl : (wordsOf f x).length < 2
  ·exact .inl hl
  ·right
   intro he
   rw [hw] at hl he
   cases ha : x.args with
   | nil => rw [ha] at hl; simp at hl
   | cons a r =>
    rw [ha] at he
    have he : vname f a = eqS := he
    exact name_ne_eq (vname_ok hf (hx.args a (by rw [ha]; exact .head _))) he
 ·have hd0 : 0 ≤ x.dst := by unfold hasV at d3; simp at d3; exact d3.1
  have hvn := vname_ok hf d3
  obtain ⟨rest, hrest⟩ : ∃ rest, x.args.map (vname f) ++ (if isNum x.op then [strL (itoa x.num)] else []) = rest := ⟨_, rfl⟩
  have hw : wordsOf f x = vname f x.dst :: eqS :: (kRow x.op).1 :: rest := by
   rw [hwo]; unfold words1; rw [if_pos hd0, ← hrest]; simp; rfl
  have hlen : (wordsOf f x).length = rest.length + 3 := by rw [hw]; rfl
  refine ⟨notB_len (by omega), fun h => by rw [hw]; exact endB_eq, ?_⟩
  have b0 : atW (wordsOf f x) 0 = vname f x.dst := by rw [hw]; rfl
  have b1 : atW (wordsOf f x) 1 = eqS := by rw [hw]; rfl
  have b2 : atW (wordsOf f x) 2 = (kRow x.op).1 := by rw [hw]; rfl
  unfold instrItem
  rw [if_neg (by rintro (h | h); omega; exact h b1), if_neg (by rintro (h | h); exact h (by rw [b0]; exact hvn); omega), if_neg (by rw [b2]; exact w7), b0, hw]
  show opCons (vname f x.dst) (kRow x.op).1 rest = _
  unfold opCons
  rw [w2, if_pos ⟨w1, by rw [d1, qr (name_ne hvn)]; rfl⟩]
  have hti : toInst f x = .inst x.op (vname f x.dst) (x.args.map (vname f)) x.num := by unfold toInst; rw [if_neg d2]
  rw [hti]
  cases hn : isNum x.op with
  | false =>
   rw [hn] at hrest
   have hrest : rest = x.args.map (vname f) := by rw [← hrest]; simp
   rw [if_neg (by simp), if_pos ⟨by rw [hrest, qk]; exact hx.len, by rw [hrest]; exact hargs⟩, hrest, hx.num hn]
  | true =>
   rw [hn] at hrest
   have hrest : rest = x.args.map (vname f) ++ [strL (itoa x.num)] := by rw [← hrest]; rfl
   have hk : (x.args.map (vname f)).length = (takesL x.op).length := by rw [qk]; exact hx.len
   have hat : atW rest (takesL x.op).length = strL (itoa x.num) := by unfold atW; rw [hrest, ← hk, List.getElem?_append_right (Nat.le_refl _), Nat.sub_self]; rfl
   have htk : rest.take (takesL x.op).length = x.args.map (vname f) := by rw [hrest, ← hk, List.take_left]
   have hp := pint_itoa hI
   have hno : numOk (strL (itoa x.num)) = true := by unfold numOk; rw [hp]; exact qq rfl
   have hnv : numV (strL (itoa x.num)) = x.num := by unfold numV; rw [if_pos hno, hp]; rfl
   rw [if_pos rfl, hat, htk, if_pos ⟨by rw [hrest, qj, hk]; rfl, hno, hargs⟩, hnv]
theorem inst_line {f : PFunc} (hf : FOk f) {x : PInst} (hx : InstF f x) (hI : -9223372036854775808 ≤ x.num ∧ x.num ≤ 9223372036854775807) {h : PHead} (he : h.ended = false) {items : List PItem} :
  isBlockLine (wordsOf f x) = false ∧ lineB h items (wordsOf f x) = some (h, items ++ [toInst f x]) := by
 obtain ⟨h1, h2, h3⟩ := inst_item hf hx hI
 refine ⟨h1, ?_⟩
 unfold lineB
 rw [if_neg (by rw [he]; simp), h2 h]
 dsimp only
 rw [h3]
 dsimp only
 rw [if_neg]
 rintro ⟨h4, _⟩
 unfold toInst at h4
 cases h4
theorem term_line {f : PFunc} (hf : FOk f) {b : PBlock} (ht : termOK f b.term = true) {items : List PItem} :
  isBlockLine (termL f b.term) = false ∧ lineB (newHead b.name) items (termL f b.term) = some (toHead f b, items) := by
 have key : ∀ {w : List ByteArray} {h' : PHead}, endB (newHead b.name) w = some h' → lineB (newHead b.name) items w = some (h', items) := fun {w h'} he => by
  unfold lineB; rw [if_neg (by show ¬ false = true; simp), he]
 unfold termL toHead
 by_cases k0 : b.term.kind = 0
 ·have hb := bname_ok hf (termOK_0 ht k0)
  rw [if_pos k0, if_pos k0]
  refine ⟨notB_head (by show jumpS ≠ blockS; decide), key ?_⟩
  unfold endB
  rw [if_neg, if_pos ⟨rfl, rfl⟩]; rfl
  rintro (h | h)
  ·have : (2 : Nat) < 2 := h; omega
  ·exact h (by show namesOk [bname f b.term.to0] = true; unfold namesOk; simp [hb])
 ·rw [if_neg k0, if_neg k0]
  by_cases k1 : b.term.kind = 1
  ·obtain ⟨t1, t2, t3⟩ := termOK_1 ht k1
   have h1 := vname_ok hf t1
   have h2 := bname_ok hf t2
   have h3 := bname_ok hf t3
   rw [if_pos k1, if_pos k1]
   refine ⟨notB_len (by show 4 ≠ 2; decide), key ?_⟩
   unfold endB
   rw [if_neg, if_neg, if_pos ⟨rfl, rfl⟩]; rfl
   ·rintro ⟨_, h⟩; cases h
   ·rintro (h | h)
    ·have : (4 : Nat) < 2 := h; omega
    ·exact h (by show namesOk [vname f b.term.var, bname f b.term.to0, bname f b.term.to1] = true; unfold namesOk; simp [h1, h2, h3])
  ·have h1 := vname_ok hf (termOK_2 ht k0 k1)
   rw [if_neg k1, if_neg k1]
   refine ⟨notB_head (by show retS ≠ blockS; decide), key ?_⟩
   unfold endB
   rw [if_neg, if_neg, if_neg, if_pos ⟨rfl, rfl⟩]; rfl
   ·rintro ⟨_, h⟩; cases h
   ·rintro ⟨h, _⟩; have h : retS = jumpS := h; revert h; decide
   ·rintro (h | h)
    ·have : (2 : Nat) < 2 := h; omega
    ·exact h (by show namesOk [vname f b.term.var] = true; unfold namesOk; simp [h1])
end Go.Proofs.YtbkgklpihnfnjaaGreatDoor
namespace Go.Proofs.YtbkgklpihnfnjaaGreatDoor
open Go.Proofs.Tryz
open Go.Proofs Go.Lib Go.Shelf Go.RowKit
set_option maxRecDepth 20000
def runW (S : PProg) (ws : List (List ByteArray)) : Option PProg := runLines S (ws.map wline)
theorem runW_nil (S : PProg) : runW S [] = some S := rfl
theorem runW_cons {S S' : PProg} {w : List ByteArray} (ws : List (List ByteArray)) (h : lineP S w = some S') : runW S (w :: ws) = runW S' ws := by
 unfold runW
 rw [List.map_cons, runLines, show (wline w).2 = w from rfl, h]; rfl
theorem runW_app : ∀ {S S' : PProg} {a : List (List ByteArray)} (b : List (List ByteArray)), runW S a = some S' → runW S (a ++ b) = runW S' b
 | S, S', [], b, h => by cases h; rfl
 | S, S', w :: a, b, h => by
  cases hl : lineP S w with
  | none => unfold runW at h; rw [List.map_cons, runLines, show (wline w).2 = w from rfl, hl] at h; cases h
  | some S1 =>
   rw [runW_cons a hl] at h
   rw [List.cons_append, runW_cons (a ++ b) hl]
   exact runW_app b h
theorem mkP_last (ps vs : List PVar) (bs : List (PHead × List PItem)) (b : PHead × List PItem) : mkP ps vs (bs ++ [b]) = ⟨ps, vs, bs, some b⟩ := by
 unfold mkP; simp
theorem begin_line {ps vs : List PVar} {bs : List (PHead × List PItem)} (h : ∀ b ∈ bs, b.1.ended = true) {nm : ByteArray} (hn : scanName nm = true) :
  lineP (mkP ps vs bs) [blockS, nm] = some ⟨ps, vs, bs, some (newHead nm, [])⟩ := by
 have hb : isBlockLine [blockS, nm] = true := by unfold isBlockLine; exact qq ⟨rfl, rfl, hn⟩
 rcases snoc_cases bs with rfl | ⟨pre, y, rfl⟩
 ·show lineP0 _ _ = _
  unfold lineP0; rw [if_pos hb]; rfl
 ·rw [mkP_last]
  show lineP1 _ y _ = _
  unfold lineP1; rw [if_pos hb, if_pos (h y (by simp))]; rfl
theorem item_line {ps vs : List PVar} {bs : List (PHead × List PItem)} {h : PHead} {it : List PItem} {w : List ByteArray} {r : PHead × List PItem} (h1 : isBlockLine w = false) (h2 : lineB h it w = some r) :
  lineP ⟨ps, vs, bs, some (h, it)⟩ w = some ⟨ps, vs, bs, some r⟩ := by
 show lineP1 _ (h, it) w = _
 unfold lineP1; rw [if_neg (by rw [h1]; simp), h2]; rfl
theorem phis_run {f : PFunc} (hf : FOk f) {ps vs : List PVar} {bs : List (PHead × List PItem)} {h : PHead} (he : h.ended = false) : ∀ {l : List PPhi} {it : List PItem}, (∀ p ∈ l, PhiP f p) → (∀ x ∈ it, x.isPhi = true) →
  runW ⟨ps, vs, bs, some (h, it)⟩ (l.map (phiL f)) = some ⟨ps, vs, bs, some (h, it ++ l.map (toPhi f))⟩
 | [], it, _, _ => by simp [runW_nil]
 | p :: l, it, hl, hit => by
  obtain ⟨h1, h2⟩ := phi_line hf (hl p (.head _)) he hit
  rw [List.map_cons, runW_cons _ (item_line h1 h2), phis_run hf he (fun x hx => hl x (.tail _ hx)) (fun x hx => by
   rcases List.mem_append.1 hx with hx | hx
   ·exact hit x hx
   ·rw [List.mem_singleton.1 hx]; rfl)]
  simp
theorem insts_run {f : PFunc} (hf : FOk f) {ps vs : List PVar} {bs : List (PHead × List PItem)} {h : PHead} (he : h.ended = false) : ∀ {l : List PInst} {it : List PItem}, (∀ x ∈ l, InstF f x ∧ -9223372036854775808 ≤ x.num ∧ x.num ≤ 9223372036854775807) →
  runW ⟨ps, vs, bs, some (h, it)⟩ (l.map (wordsOf f)) = some ⟨ps, vs, bs, some (h, it ++ l.map (toInst f))⟩
 | [], it, _ => by simp [runW_nil]
 | x :: l, it, hl => by
  obtain ⟨h1, h2⟩ := inst_line hf (hl x (.head _)).1 (hl x (.head _)).2 he (items := it)
  rw [List.map_cons, runW_cons _ (item_line h1 h2), insts_run hf he (fun y hy => hl y (.tail _ hy))]
  simp
def NumsOk (f : PFunc) : Prop := ∀ b ∈ f.blocks, ∀ x ∈ b.insts, -9223372036854775808 ≤ x.num ∧ x.num ≤ 9223372036854775807
theorem blk_run {f : PFunc} (hf : FOk f) {ps vs : List PVar} {bs : List (PHead × List PItem)} (h : ∀ b ∈ bs, b.1.ended = true) {b : PBlock} (hb : scanName b.name = true) (hp : BlkP f b) (hn : ∀ x ∈ b.insts, -9223372036854775808 ≤ x.num ∧ x.num ≤ 9223372036854775807) :
  runW (mkP ps vs bs) (blkL f b) = some (mkP ps vs (bs ++ [toB f b])) := by
 obtain ⟨h1, h2, h3⟩ := hp
 obtain ⟨t1, t2⟩ := term_line hf h3 (items := b.phis.map (toPhi f) ++ b.insts.map (toInst f))
 unfold blkL
 rw [runW_cons _ (begin_line h hb), runW_app _ (phis_run hf rfl h1 (by simp)), List.nil_append, runW_app _ (insts_run hf rfl fun x hx => ⟨instP_F (h2 x hx), hn x hx⟩), runW_cons _ (item_line t1 t2), runW_nil, mkP_last]
 rfl
theorem toHead_ended (f : PFunc) (b : PBlock) : (toHead f b).ended = true := by unfold toHead; split; rfl; split <;> rfl
theorem blks_run {f : PFunc} (hf : FOk f) {ps vs : List PVar} : ∀ {l : List PBlock} {bs : List (PHead × List PItem)}, (∀ b ∈ bs, b.1.ended = true) → (∀ b ∈ l, scanName b.name = true ∧ BlkP f b ∧ ∀ x ∈ b.insts, -9223372036854775808 ≤ x.num ∧ x.num ≤ 9223372036854775807) →
  runW (mkP ps vs bs) (l.flatMap (blkL f)) = some (mkP ps vs (bs ++ l.map (toB f)))
 | [], bs, _, _ => by simp [runW_nil]
 | b :: l, bs, h, hl => by
  obtain ⟨h1, h2, h3⟩ := hl b (.head _)
  rw [List.flatMap_cons, runW_app _ (blk_run hf h h1 h2 h3), blks_run hf (fun x hx => by
   rcases List.mem_append.1 hx with hx | hx
   ·exact h x hx
   ·rw [List.mem_singleton.1 hx]; exact toHead_ended f b) (fun x hx => hl x (.tail _ hx))]
  simp
theorem vars_run {ps : List PVar} : ∀ {l vs : List PVar}, (∀ v ∈ l, scanName v.name = true ∧ 0 ≤ v.ty ∧ v.ty ≤ 2) → runW (mkP ps vs []) (l.map varL) = some (mkP ps (vs ++ l) [])
 | [], vs, _ => by simp [runW_nil]
 | v :: l, vs, h => by
  obtain ⟨h1, h2⟩ := pairs_read (l := [v]) (fun x hx => by rw [List.mem_singleton.1 hx]; exact h v (.head _))
  have hl : lineP (mkP ps vs []) (varL v) = some (mkP ps (vs ++ [v]) []) := by
   show lineP0 _ _ = _
   unfold lineP0
   rw [if_neg (by rw [notB_head (by show varS ≠ blockS; decide)]; simp), if_pos ⟨by unfold isVarLine; exact qq ⟨rfl, by show 1 < 2; omega⟩, h1⟩]
   show some _ = some _
   rw [show (varL v).drop 1 = [v].map pairW from rfl, h2]; rfl
  rw [List.map_cons, runW_cons _ hl, vars_run fun x hx => h x (.tail _ hx)]
  simp
theorem read_lines {f : PFunc} (hf : FOk f) (hn : NumsOk f) (hb : f.blocks ≠ []) : readW (linesF f) = some (progF f) := by
 have hpar : ∀ v ∈ f.vars.take f.params.length, scanName v.name = true ∧ 0 ≤ v.ty ∧ v.ty ≤ 2 := fun v hv => hf.vars v (List.mem_of_mem_take hv)
 obtain ⟨p1, p2⟩ := pairs_read hpar
 show (if atW (headL f) 0 = funcS then (tgt (wline (headL f)) (((f.vars.drop f.params.length).map varL ++ f.blocks.flatMap (blkL f)).map wline)).bind endP else none) = _
 rw [if_pos (show atW (headL f) 0 = funcS from rfl)]
 unfold tgt
 have hd : (wline (headL f)).2.drop 1 = (f.vars.take f.params.length).map pairW := rfl
 have hst : start (wline (headL f)).2 = mkP (f.vars.take f.params.length) [] [] := by unfold start; rw [hd, p2]; rfl
 rw [hd, if_pos p1, hst]
 show (runW _ ((f.vars.drop f.params.length).map varL ++ f.blocks.flatMap (blkL f))).bind endP = _
 rw [runW_app _ (vars_run fun v hv => hf.vars v (List.mem_of_mem_drop hv)), blks_run hf (by simp) fun b hb2 => ⟨(hf.blks b hb2).1, (hf.blks b hb2).2, hn b hb2⟩]
 show endP (mkP _ _ _) = _
 rw [List.nil_append, List.nil_append]
 unfold progF
 rcases snoc_cases f.blocks with h | ⟨pre, y, h⟩
 ·exact absurd h hb
 ·rw [h, qo, List.map_cons, List.map_nil, mkP_last]
  show (if (toB f y).1.ended = true then _ else none) = _
  rw [if_pos (show (toB f y).1.ended = true from toHead_ended f y)]
end Go.Proofs.YtbkgklpihnfnjaaGreatDoor
