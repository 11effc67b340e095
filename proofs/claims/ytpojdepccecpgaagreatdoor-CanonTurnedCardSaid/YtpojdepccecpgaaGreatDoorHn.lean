/- A program without what is not reached, as the program makes it. Of typed and joined programs that are little. -/
import Derived.Test.YtpojdepccecpgaaGreatDoorHm
import Derived.Test.YtpojdepccecpgaaGreatDoorHj
set_option linter.unusedVariables false
set_option linter.unusedSimpArgs false
set_option linter.unusedSectionVars false
namespace Go.Proofs.YtpojdepccecpgaaGreatDoor
open Go.Proofs.Tryz
open Go.Proofs Go.Lib Go.Shelf Go.RowKit
set_option maxRecDepth 20000
variable {E : World}
def blkP (i : Nat) (b : PBlock) : List AV := [.str b.name, .own i b.phis.length, .fro 4 (b.insts.map encInst), .int .i64 b.term.kind, .int .i64 b.term.var, .int .i64 b.term.to0, .int .i64 b.term.to1]
def blkPs (ids : List Nat) (bs : List PBlock) : List AV := (List.zipWith blkP ids bs).flatten
def phiO (i : Nat) (b : PBlock) : Nat × AObj := (i, .grow 3 71 (b.phis.map encPhi).flatten)
def bagPs (ids : List Nat) (bs : List PBlock) : OL := List.zipWith phiO ids bs
theorem blkPs_push {ids : List Nat} {bs : List PBlock} {k : Nat} (a : Nat) (h : ids.length = k) (hk : k < bs.length) : blkPs ids (bs.take k) ++ [blkP a bs[k]].flatten = blkPs (ids ++ [a]) (bs.take (k + 1)) := by
 unfold blkPs; rw [zip_push blkP a h hk, List.flatten_append]
theorem bagPs_push {ids : List Nat} {bs : List PBlock} {k : Nat} (a : Nat) (h : ids.length = k) (hk : k < bs.length) : (phiO a bs[k] :: bagPs ids (bs.take k)).Perm (bagPs (ids ++ [a]) (bs.take (k + 1))) := by
 unfold bagPs; rw [zip_push phiO a h hk]; exact (List.perm_append_comm (l₁ := [_]))
theorem blkPs_cons (i : Nat) (ids : List Nat) (b : PBlock) (bs : List PBlock) : blkPs (i :: ids) (b :: bs) = blkP i b ++ blkPs ids bs := by unfold blkPs; rw [List.zipWith_cons_cons, List.flatten_cons]
theorem blkPs_len : ∀ {ids : List Nat} {bs : List PBlock}, ids.length = bs.length → (blkPs ids bs).length = bs.length * 7
 | [], [], _ => rfl
 | i :: ids, b :: bs, h => by
  have := blkPs_len (ids := ids) (bs := bs) (by simpa using h)
  rw [blkPs_cons, qg, this, List.length_cons, Nat.add_mul]
  show 7 + _ = _
  omega
theorem blkPs_row : ∀ {ids : List Nat} {bs : List PBlock} {p i : Nat} {b : PBlock}, ids[p]? = some i → bs[p]? = some b → ((blkPs ids bs).drop (p * 7)).take 7 = blkP i b
 | [], _, p, _, _, h, _ => by simp at h
 | _ :: _, [], p, _, _, _, h => by simp at h
 | j :: ids, c :: bs, 0, i, b, h1, h2 => by
  simp at h1 h2
  subst h1 h2
  rw [blkPs_cons]; rfl
 | j :: ids, c :: bs, p + 1, i, b, h1, h2 => by
  have h := blkPs_row (ids := ids) (bs := bs) (p := p) (i := i) (b := b) (by simpa using h1) (by simpa using h2)
  rw [blkPs_cons, show (p + 1) * 7 = (p * 7) + 7 by omega]
  exact h
set_option maxHeartbeats 4000000 in
theorem copyP_own (f : PFunc) (hf : small f) : ACall prog E 50 [.agg (encF f)] [] (fun x O' => ∃ g : Nat × List Nat, x = .agg [.fro 2 (f.vars.map encVar), .fro 1 (f.params.map encI), .own g.1 f.blocks.length] ∧ O' = [(g.1, .grow 7 69 (blkPs g.2 f.blocks)), (0, bag (bagPs g.2 f.blocks))] ∧ g.2.length = f.blocks.length) := by
 refine ACall.exact (γ := Nat × List Nat) (x := fun g => .agg [.fro 2 (f.vars.map encVar), .fro 1 (f.params.map encI), .own g.1 f.blocks.length]) (M := fun g => [(g.1, .grow 7 69 (blkPs g.2 f.blocks)), (0, bag (bagPs g.2 f.blocks))]) (p := fun g => g.2.length = f.blocks.length) ?_
 obtain ⟨hf1, hf2, hf3, hf4, hf5⟩ := hf
 refine zt func50 Z (by decide) Z<|zSr<|yc (cs := _) Z Z Z<|zo (cs := [.raw (.slice none 0 0), .raw (.slice none 0 0), .raw (.slice none 0 0)]) jn Z Z<|fun i2 => z6<|ze<|yt (γ := Nat) [1, 2] (fun i => [(3, .po i 0)]) (fun i => [(i, .cells 26 [.fro 2 (f.vars.map encVar), .fro 1 (f.params.map encI), .raw (.slice none 0 0)]), (i2, .cells 26 [.raw (.slice none 0 0), .raw (.slice none 0 0), .raw (.slice none 0 0)])]) (fun i => True) ?_ (fun _ _ h => h) ?_
 ·refine y6 (fun j => Nat.beq j 8) (by kernel_rfl) Z (yb (.rest _))<|zTk 0 Z (zFF jd Z Zb Z Z)<|zTk 1 Z (zLf Zh Z)<|zTk 3 Z (zFF jd Z ji Z Z)<|zTk 4 Z (zLf jq Z)<|yg (i := 2) (j := 7) Z Z (by kernel_rfl) ?_ ?_
  ·refine zg (cloneV_spec _ (by omega)) Z<|z6<|yg (i := 5) (j := 7) Z Z (by kernel_rfl) ?_ ?_
   ·refine zg (cloneI_spec _ (by omega)) Z<|z6<|zTk 6 Z (y1 (cps := [(0, [_]), (1, [_])]) (rs := [_, _, .raw (.slice none 0 0)]) pl26 Z Z Z)<|zOn 7 Z<|zo (cs := [.raw (.slice none 0 0), .raw (.slice none 0 0), .raw (.slice none 0 0)]) jn Z Z<|fun i3 => z6<|zw<|zu (i := 8) Z (by kernel_rfl) (by kernel_rfl)<|zh j9 Z Z Z Z Z Z .head Z<|z6<|zz (by kernel_rfl) ?_
    exact ⟨i3, zR2, zR1, zLe, trivial⟩
   ·refine zo (cs := [.raw (.slice none 0 0), .raw (.slice none 0 0), .raw (.slice none 0 0)]) jn Z Z<|fun i3 => z6<|zOn 5 Z<|zg (cloneI_spec _ (by omega)) Z<|z6<|zTk 6 Z (y1 (cps := [(0, [_]), (1, [_])]) (rs := [_, _, .raw (.slice none 0 0)]) pl26 Z Z Z)<|zw<|zu (i := 8) Z (by kernel_rfl) (by kernel_rfl)<|zh j9 Z Z Z Z Z Z .head Z<|z6<|zz (by kernel_rfl) ?_
    exact ⟨i3, zR2, zR1, zLe, trivial⟩
  ·refine zo (cs := [.raw (.slice none 0 0), .raw (.slice none 0 0), .raw (.slice none 0 0)]) jn Z Z<|fun i3 => z6<|zOn 2 Z<|zg (cloneV_spec _ (by omega)) Z<|z6<|zOn 5 Z<|zg (cloneI_spec _ (by omega)) Z<|z6<|zTk 6 Z (y1 (cps := [(0, [_]), (1, [_])]) (rs := [_, _, .raw (.slice none 0 0)]) pl26 Z Z Z)<|zw<|zu (i := 8) Z (by kernel_rfl) (by kernel_rfl)<|zh j9 Z Z Z Z Z Z .head Z<|z6<|zz (by kernel_rfl) ?_
   exact ⟨i3, zR2, zR1, zLe, trivial⟩
 ·rintro i3 _
  refine ze<|zSr<|zVzFF jd Z jw Z Z<|zVzLf Z3 Z<|zVGvlenM jc Z<|zVzMi Z<|z6<|adoptC_wp (off := 2) (k := 7) (T := 69) (fun _ => .head) Z<|fun ib => y4 GStep.bagNew<|y4 (zb (zc .t1))<|zi<|y7 (γ := Nat × Nat × List Nat) [2, 3, 19, 20] (fun g => [(21, .int .i64 g.1)]) (fun g => [(g.2.1, .grow 7 69 (blkPs g.2.2 (f.blocks.take g.1))), (0, bag (bagPs g.2.2 (f.blocks.take g.1))), (i3, .cells 26 [.fro 2 (f.vars.map encVar), .fro 1 (f.params.map encI), .own g.2.1 g.1]), (i2, .cells 26 [.raw (.slice none 0 0), .raw (.slice none 0 0), .raw (.slice none 0 0)])]) (fun g => g.1 ≤ f.blocks.length ∧ g.2.2.length = g.1) (fun g => f.blocks.length - g.1) (0, ib, []) zR1 zLe (⟨qd _, Z⟩) ?_
  rintro ⟨k, ib, ids⟩ ⟨hk, hids⟩
  try dsimp only at *
  refine zSr<|zVGvlss Z Z<|z6<|ze<|y2 Z (fun ck=>?_) (fun ck=>?_)
  ·have hk2 : k < f.blocks.length := by omega
   obtain ⟨hb0, hb1, hb2, hb3, hb4⟩ := hf5 _ (qe hk2)
   refine zj<|ze<|zi<|zSr<|z8 (yi jc jm Z Z Z (qa (by omega)))<|zVGvloadWF Ze jm Z Z<|zo (cs := [.str ⟨#[]⟩, .raw (.slice none 0 0), .raw (.slice none 0 0), .int .i64 0, .int .i64 0, .int .i64 0, .int .i64 0]) Z0 Z Z<|fun i5 => zh jm Z Z Z Z Z Z .head Z<|z6<|zSr<|z8 (zf j7 Z Z1 (by decide) Z Z)<|z8 (zp (c := .str _) Za Z ⟨_, .head⟩ Z)<|z8 (zf j7 Z jv (by decide) Z Z)<|z8 (Gv.loadAC (l := [_, _, _, _]) Zy jv Z ⟨_, .head⟩ Z Z)<|z8 (y1 (cps := [(0, [_]), (3, [_, _, _, _])]) (rs := [_, .raw (.slice none 0 0), .raw (.slice none 0 0), _, _, _, _]) pl69 Z Z Z)<|zo (cs := [.str ⟨#[]⟩, .raw (.slice none 0 0), .raw (.slice none 0 0), .int .i64 0, .int .i64 0, .int .i64 0, .int .i64 0]) Z0 Z Z<|fun i6 => zh jm Z Z Z Z Z Z .head Z<|z6<|ze<|zSr<|z8 (zf j7 Z Z6 (by decide) Z Z)<|z8 (zp (c := .fro _ _) Zk Z ⟨_, .t1⟩ Z)<|zVGvlenM jo Z<|zVzMi Z<|z6<|adoptC_wp (off := 1) (k := 3) (T := 71) (fun _ => .head) Z<|fun ip => y4 (zb (zc .t1))<|zi<|y7 (γ := Nat × Nat) [2, 3, 5, 6, 19, 20, 21, 31, 32] (fun g => [(33, .int .i64 g.1)]) (fun g => [(i6, .cells 69 [.str f.blocks[k].name, .own g.2 g.1, .raw (.slice none 0 0), .int .i64 f.blocks[k].term.kind, .int .i64 f.blocks[k].term.var, .int .i64 f.blocks[k].term.to0, .int .i64 f.blocks[k].term.to1]), (g.2, .grow 3 71 ((f.blocks[k].phis.take g.1).map encPhi).flatten), (i5, .cells 69 (encBlk f.blocks[k])), (ib, .grow 7 69 (blkPs ids (f.blocks.take k))), (0, bag (bagPs ids (f.blocks.take k))), (i3, .cells 26 [.fro 2 (f.vars.map encVar), .fro 1 (f.params.map encI), .own ib k]), (i2, .cells 26 [.raw (.slice none 0 0), .raw (.slice none 0 0), .raw (.slice none 0 0)])]) (fun g => g.1 ≤ f.blocks[k].phis.length) (fun g => f.blocks[k].phis.length - g.1) (0, ip) zR1 zLe (qd _) ?_
   rintro ⟨m, ip⟩ hm
   try dsimp only at *
   refine zSr<|zVGvlss Z Z<|z6<|ze<|y2 Z (fun cm=>?_) (fun cm=>?_)
   ·have hm2 : m < f.blocks[k].phis.length := by omega
    obtain ⟨hp1, hp2⟩ := hb3 _ (qe hm2)
    refine zj<|ze<|zi<|zSr<|z8 (yi jo ju Z Z Z (qa (by omega)))<|zVGvloadWF Zj ju Z Z<|zo (cs := [.int .i64 0, .raw (.slice none 0 0), .raw (.slice none 0 0)]) Z9 Z Z<|fun i8 => zh ju Z Z Z Z Z Z .head Z<|z6<|y6 (fun j => Nat.beq j 14) (by kernel_rfl) Z (yb (.r (.r (.rest _))))<|zTk 0 Z (zf j7 Z Z6 (by decide) Z Z)<|zTk 1 Z (zp (c := .own _ _) Zk Z ⟨_, .t1⟩ Z)<|zTk 2 Z (zf jj Z j8 (by decide) Z Z)<|zTk 3 Z (zp (c := .int _ _) jl Z ⟨_, .head⟩ Z)<|zTk 4 Z (zf jj Z ji (by decide) Z Z)<|zTk 5 Z (zp (c := .fro _ _) jq Z ⟨_, .head⟩ Z)<|zTk 7 Z (zf jj Z ji (by decide) Z Z)<|zTk 8 Z (zp (c := .fro _ _) jq Z ⟨_, .head⟩ Z)<|zOn 6 Z<|zg (cloneI_spec _ (by omega)) Z<|z6<|zOn 9 Z<|zg (cloneI_spec _ (by omega)) Z<|z6<|zTk 10 Z (y1 (cps := [(0, [_]), (1, [_]), (2, [_])]) (rs := [_, _, _]) pl71 Z Z Z)<|zOn 11 Z<|zr (rows := [[_, _, _]]) ps67_1 Z Z Z Z Z<|z6<|zOn 12 Z<|zq (k := 3) jo type71 Z Z Z Z Z (fun _ => .head) (by rw [grow_len (k := 3) (fun _ => rfl), ql, Nat.min_eq_left hm]) (by decide) Z (by show (_ + _) * 56 ≤ _; simp <;> omega) (by simp <;> omega)<|fun i49 => z6<|zTk 13 Z (zf j7 Z Z6 (by decide) Z Z)<|zw<|zu (i := 14) Z (by kernel_rfl) (by kernel_rfl)<|ya (l := [_]) (new := [_, _, _, _, _, _, _]) Z6 Z Z Z Z Z Z .t1 Z Z<|z6<|zz (by kernel_rfl)<|zRg<|zVzAd Z Z ?_
    refine zVzMi Z<|z6 ?_
    exact ⟨(m + 1, i49), zR9, zR1, ⟨_, (.drop (.refl _)), by rw [← grow_push (qb hm2)]; rfl⟩, hm2, by dsimp only; omega⟩
   ·obtain rfl : m = f.blocks[k].phis.length := by omega
    refine y5<|ze<|zSr<|z8 (zf j7 Z Z7 (by decide) Z Z)<|z8 (zp (c := .fro _ _) Zm Z ⟨_, .t2⟩ Z)<|zVGvlenM js Z<|zVzMi Z<|z6<|adoptC_wp (off := 2) (k := 4) (T := 61) (fun _ => .head) Z<|fun ii => zi<|y7 (γ := Nat × Nat) [2, 3, 6, 19, 20, 21, 53, 54] (fun g => [(55, .int .i64 g.1)]) (fun g => [(g.2, .grow 4 61 ((f.blocks[k].insts.take g.1).map encInst).flatten), (i6, .cells 69 [.str f.blocks[k].name, .own ip f.blocks[k].phis.length, .own g.2 g.1, .int .i64 f.blocks[k].term.kind, .int .i64 f.blocks[k].term.var, .int .i64 f.blocks[k].term.to0, .int .i64 f.blocks[k].term.to1]), (ip, .grow 3 71 (f.blocks[k].phis.map encPhi).flatten), (i5, .cells 69 (encBlk f.blocks[k])), (ib, .grow 7 69 (blkPs ids (f.blocks.take k))), (0, bag (bagPs ids (f.blocks.take k))), (i3, .cells 26 [.fro 2 (f.vars.map encVar), .fro 1 (f.params.map encI), .own ib k]), (i2, .cells 26 [.raw (.slice none 0 0), .raw (.slice none 0 0), .raw (.slice none 0 0)])]) (fun g => g.1 ≤ f.blocks[k].insts.length) (fun g => f.blocks[k].insts.length - g.1) (0, ii) zR1 ⟨_, (.refl _), by rw [qf]; rfl⟩ (qd _) ?_
    rintro ⟨m, ii⟩ hm
    try dsimp only at *
    refine zSr<|zVGvlss Z Z<|z6<|ze<|y2 Z (fun cm=>?_) (fun cm=>?_)
    ·have hm2 : m < f.blocks[k].insts.length := by omega
     have hp1 := hb4 _ (qe hm2)
     refine zj<|ze<|zi<|zSr<|z8 (yi js jx Z Z Z (qa (by omega)))<|zVGvloadWF Zn jx Z Z<|zo (cs := [.int .i64 0, .int .i64 0, .raw (.slice none 0 0), .int .i64 0]) Zf Z Z<|fun i10 => zh jx Z Z Z Z Z Z .head Z<|z6<|zSr<|z8 (zf jh Z ji (by decide) Z Z)<|z8 (zp (c := .fro _ _) jq Z ⟨_, .head⟩ Z)<|zg (cloneI_spec _ (by omega)) Z<|z8 (zf jh Z ji (by decide) Z Z)<|ya (l := [_]) (new := [_, _, _, _]) ji Z Z Z Z Z Z .head Z Z<|z6<|zRg<|z8 (zf j7 Z Z7 (by decide) Z Z)<|z8 (zp (c := .own _ _) Zm Z ⟨_, .t2⟩ Z)<|z8 (yh Zn jx Z ⟨_, .head⟩ Z)<|zr (rows := [[_, _, _, _]]) ps62_1 Z Z Z Z Z<|zq (k := 4) js type61 Z Z Z Z Z (fun _ => .t1) (by rw [grow_len (k := 4) (fun _ => rfl), ql, Nat.min_eq_left hm]) (by decide) Z (by show (_ + _) * 48 ≤ _; simp <;> omega) (by simp <;> omega)<|fun i67 => z8 (zf j7 Z Z7 (by decide) Z Z)<|ya (l := [_]) (new := [_, _, _, _, _, _, _]) Z7 Z Z Z Z Z Z .t2 Z Z<|z6<|zRg<|zVzAd Z Z<|zVzMi Z<|z6 ?_
     exact ⟨(m + 1, i67), zR8, zR1, ⟨_, (.drop (.refl _)), by rw [← grow_push (qb hm2)]; rfl⟩, hm2, by dsimp only; omega⟩
    ·obtain rfl : m = f.blocks[k].insts.length := by omega
     rw [qf]
     refine y5<|y4 (yn (off := 2) (rows := f.blocks[k].insts.map encInst) .head .head Z (by simp [encI, encVar, encPhi, encInst, encBlk]) (by decide) (by simp))<|zRg<|z8 (zf jd Z jw (by decide) Z Z)<|z8 (zp (c := .own _ _) Z3 Z ⟨_, .t5⟩ Z)<|z8 (yh Ze jm Z ⟨_, .head⟩ Z)<|zr (rows := [[_, _, _, _, _, _, _]]) ps24_1 Z Z Z Z Z<|zq (k := 7) jc Zd Z Z Z Z Z (fun _ => .t3) (by rw [blkPs_len (by rw [ql]; omega), ql, Nat.min_eq_left hk]) (by decide) Z (by show (_ + _) * 96 ≤ _; simp <;> omega) (by simp <;> omega)<|fun i74 => z8 (zf jd Z jw (by decide) Z Z)<|ya (l := [_]) (new := [_, _, _]) jw Z Z Z Z Z Z .t5 Z Z<|z6<|y4 (GStep.bagIn (X' := bagPs (ids ++ [ip]) (f.blocks.take (k + 1))) .t1 (bagPs_push ip hids hk2) .t3)<|zRg<|zVzAd Z Z<|zVzMi Z<|z6 ?_
     exact ⟨(k + 1, i74, ids ++ [ip]), zR4, zR1, ⟨_, (.drop (.drop (.refl _))), by rw [← blkPs_push ip hids hk2]; rfl⟩, ⟨hk2, by simp [hids]⟩, by dsimp only; omega⟩
  ·obtain rfl : k = f.blocks.length := by omega
   rw [qf]
   refine y5<|zSr<|z8 (yh jp j9 Z ⟨_, .t2⟩ Z)<|zh j9 Z Z Z Z Z Z .t3 Z<|z6<|zk<|afin.c1 Z ⟨_, .t3⟩ jp j9 Z ?_
   exact ⟨(ib, ids), rfl, ⟨_, .keep (.keep (.drop (.drop (.refl _)))), rfl⟩, hids⟩
end Go.Proofs.YtpojdepccecpgaaGreatDoor
namespace Go.Proofs.YtpojdepccecpgaaGreatDoor
open Go.Proofs.Tryz
open Go.Proofs Go.Lib Go.Shelf Go.RowKit
variable {E : World}
set_option maxRecDepth 20000
def cntR (f : PFunc) (k : Nat) : Nat := ((List.range k).filter fun (b : Nat) => decide ((b : Int) ∈ ord f)).length
theorem cntR_succ (f : PFunc) (k : Nat) : cntR f (k + 1) = cntR f k + if (k : Int) ∈ ord f then 1 else 0 := by
 unfold cntR
 rw [List.range_succ, List.filter_append, qg, List.filter_cons]
 congr 1
 by_cases h : (k : Int) ∈ ord f
 ·rw [if_pos h, if_pos (qm h)]; rfl
 ·rw [if_neg h, if_neg (by simpa using h)]; rfl
theorem cntR_le (f : PFunc) (k : Nat) : cntR f k ≤ k := by unfold cntR; refine Nat.le_trans (List.length_filter_le _ _) ?_; rw [List.length_range]; omega
theorem rl_cnt {f : PFunc} (hE : EndsOk f) {k : Nat} (h : (k : Int) ∈ ord f) : (rlL f)[cntR f k]? = some k := by
 have hk := order_rng hE.grph.toEOk h
 obtain ⟨d, hd⟩ : ∃ d, f.blocks.length = k + (d + 1) := ⟨f.blocks.length - k - 1, by omega⟩
 unfold rlL cntR
 rw [hd, List.range_add, List.filter_append, List.getElem?_append_right (Nat.le_refl _), Nat.sub_self, List.range_succ_eq_map, List.map_cons, List.filter_cons, if_pos (by simpa using h)]; rfl
theorem nmb_cnt {f : PFunc} (hE : EndsOk f) (k : Nat) : nmb f k = if (k : Int) ∈ ord f then (cntR f k : Int) else -1 := by
 by_cases h : (k : Int) ∈ ord f
 ·rw [if_pos h]; exact nmb_row hE (rl_cnt hE h)
 ·rw [if_neg h]; unfold nmb; rw [if_neg h]
def numL (f : PFunc) (k : Nat) : List Int := (List.range f.blocks.length).map fun (b : Nat) => if b < k then nmb f b else 0
theorem numL_len (f : PFunc) (k : Nat) : (numL f k).length = f.blocks.length := by unfold numL; simp
theorem numL_zero (f : PFunc) : numL f 0 = List.replicate f.blocks.length 0 := by
 apply List.ext_getElem
 ·simp [numL]
 ·intro i h1 h2; simp [numL]
theorem numL_idx {f : PFunc} {k i : Nat} (h : i < (numL f k).length) : (numL f k)[i] = if i < k then nmb f i else 0 := by
 simp [numL]
theorem numL_set {f : PFunc} {k : Nat} (h : k < f.blocks.length) : (numL f k).set k (nmb f k) = numL f (k + 1) := by
 apply List.ext_getElem
 ·simp [numL]
 ·intro i h1 h2
  rw [List.getElem_set, numL_idx, numL_idx]
  by_cases e : k = i
  ·subst e; rw [if_pos rfl, if_pos (by omega)]
  ·rw [if_neg e]
   by_cases hl : i < k
   ·rw [if_pos hl, if_pos (by omega)]
   ·rw [if_neg hl, if_neg (by omega)]
theorem numL_get {f : PFunc} {b : Int} (h0 : 0 ≤ b) (h1 : b < f.blocks.length) : (numL f f.blocks.length)[b.toNat]? = some (nmb f b) := by
 unfold numL
 rw [qi, List.getElem?_range (by omega)]
 show some (if b.toNat < _ then nmb f (b.toNat : Int) else 0) = _
 rw [if_pos (by omega), qp h0]
def prT (f : PFunc) (k : Nat) : List PBlock := ((List.range k).filter fun (b : Nat) => decide ((b : Int) ∈ ord f)).map fun b => pruneB (nmb f) (frL f b) (blkX f b)
theorem prT_len (f : PFunc) (k : Nat) : (prT f k).length = cntR f k := qh ..
theorem prT_succ (f : PFunc) (k : Nat) : prT f (k + 1) = prT f k ++ if (k : Int) ∈ ord f then [pruneB (nmb f) (frL f k) (blkX f k)] else [] := by
 unfold prT
 rw [List.range_succ, List.filter_append, qk, List.filter_cons]
 congr 1
 by_cases h : (k : Int) ∈ ord f
 ·rw [if_pos h, if_pos (qm h)]; rfl
 ·rw [if_neg h, if_neg (by simpa using h)]; rfl
def eT (f : PFunc) (b : PBlock) (g : Nat) : Int × Int := (if 0 < g then nmb f (((endsL b.term)[0]?).getD 0) else b.term.to0, if 1 < g then nmb f (((endsL b.term)[1]?).getD 0) else b.term.to1)
def phT (f : PFunc) (k : Nat) (b : PBlock) (m : Nat) : List PPhi := (b.phis.take m).map (pruneP (nmb f) (frL f k)) ++ b.phis.drop m
theorem eT_same {f : PFunc} {b : PBlock} (h1 : b.term.kind = 1) (h2 : b.term.to0 = b.term.to1) : (⟨b.term.kind, b.term.var, (eT f b (endsL b.term).length).1, (eT f b (endsL b.term).length).1⟩ : PTerm) = trmM id (nmb f) b.term := by
 have e : endsL b.term = [b.term.to0] := by unfold endsL; rw [if_neg (by omega), if_pos h1, if_pos h2]
 unfold eT trmM
 rw [e, if_neg (show ¬ b.term.kind = 0 by omega), if_pos h1, ← h2]; rfl
theorem eT_two {f : PFunc} {b : PBlock} (h1 : b.term.kind = 1) (h2 : ¬ b.term.to0 = b.term.to1) : (⟨b.term.kind, b.term.var, (eT f b (endsL b.term).length).1, (eT f b (endsL b.term).length).2⟩ : PTerm) = trmM id (nmb f) b.term := by
 have e : endsL b.term = [b.term.to0, b.term.to1] := by unfold endsL; rw [if_neg (by omega), if_pos h1, if_neg h2]
 unfold eT trmM
 rw [e, if_neg (show ¬ b.term.kind = 0 by omega), if_pos h1]; rfl
theorem eT_one {f : PFunc} {b : PBlock} (h1 : ¬ b.term.kind = 1) : (⟨b.term.kind, b.term.var, (eT f b (endsL b.term).length).1, (eT f b (endsL b.term).length).2⟩ : PTerm) = trmM id (nmb f) b.term := by
 unfold trmM
 by_cases h0 : b.term.kind = 0
 ·have e : endsL b.term = [b.term.to0] := by unfold endsL; rw [if_pos h0]
  unfold eT
  rw [e, if_pos h0]; rfl
 ·have e : endsL b.term = [] := by unfold endsL; rw [if_neg h0, if_neg h1]
  unfold eT
  rw [e, if_neg h0, if_neg h1]; rfl
theorem phT_flat {f : PFunc} {k : Nat} {b : PBlock} {m : Nat} (hm : m < b.phis.length) : ((phT f k b m).map encPhi).flatten = (((b.phis.take m).map (pruneP (nmb f) (frL f k))).map encPhi).flatten ++ (encPhi b.phis[m] ++ ((b.phis.drop (m + 1)).map encPhi).flatten) := by
 unfold phT
 rw [List.drop_eq_getElem_cons hm, qk, List.flatten_append, List.map_cons, List.flatten_cons]
theorem phA_len {f : PFunc} {k : Nat} {b : PBlock} {m : Nat} (hm : m < b.phis.length) : ((((b.phis.take m).map (pruneP (nmb f) (frL f k))).map encPhi).flatten).length = m * 3 := by
 rw [grow_len (k := 3) (fun _ => rfl), qh, ql, Nat.min_eq_left (by omega)]
theorem phT_row {f : PFunc} {k : Nat} {b : PBlock} {m : Nat} (hm : m < b.phis.length) : ((((phT f k b m).map encPhi).flatten).drop (m * 3)).take 3 = encPhi b.phis[m] := by
 rw [phT_flat hm, List.drop_left' (phA_len hm)]
 exact List.take_left' rfl
theorem phT_set {f : PFunc} {k : Nat} {b : PBlock} {m : Nat} (hm : m < b.phis.length) : (((phT f k b m).map encPhi).flatten).take (m * 3) ++ encPhi (pruneP (nmb f) (frL f k) b.phis[m]) ++ (((phT f k b m).map encPhi).flatten).drop (m * 3 + 3) = ((phT f k b (m + 1)).map encPhi).flatten := by
 rw [phT_flat hm, List.take_left' (phA_len hm), ← List.drop_drop, List.drop_left' (phA_len hm), List.drop_left' (show (encPhi b.phis[m]).length = 3 from rfl)]
 unfold phT
 rw [qb hm]
 simp only [qk, List.map_cons, List.map_nil, List.flatten_append, List.flatten_cons, List.flatten_nil, List.append_nil, qc]
set_option maxHeartbeats 8000000 in
theorem prune_spec (f : PFunc) (hf : small f) (hL : Letters E) (ht : typedB f = true) (hJ : JoinP f) : AFun prog E 24 [.agg (encF f)] (.tup [.agg (encF (pruneF f)), .int .i64 0]) := by
 have hn := hf.2.2.1
 have hE := typedE ht
 have hS := typedS ht
 have hfr : ∀ {k : Nat}, (frL f k).length ≤ 100000 := fun {k} => by
  have h1 := List.Nodup.length_le_of_subset (l₂ := intsTo f.blocks.length) (predsT_nodup (fun b => EndsOf_nodup f b) f.blocks.length k).1 fun x hx => by
   have h2 := (mem_predsT hE.grph.toEOk hE.grph.out).1 hx
   refine mem_intsTo.2 (Classical.byContradiction fun hn=>?_)
   rw [hE.grph.out x hn] at h2; cases h2
  rw [intsTo_len] at h1
  show (predsT _ _ _).length ≤ _
  omega
 have hright := right_spec (E := E) f hf hL
 rw [ht] at hright
 have hpt := prune_typed ht hJ
 have hjo := joinedX_spec (E := E) (pruneF f) (prune_small hf) hL
 rw [hpt.1, (joinedB_iff _).2 hpt.2] at hjo
 have hjo : AFun prog E 23 [.agg (encF (pruneF f))] (.int .i64 0) := hjo
 refine zt func24 Z (by decide) Z<|zSr<|yc (cs := _) Z Z Z<|zo (cs := [.raw (.slice none 0 0), .raw (.slice none 0 0), .raw (.slice none 0 0)]) jn Z Z<|fun i2 => zVzAi Z<|z6<|ze<|zSr<|zVGvloadWF jp j9 Z Z<|zg (hright) Z<|zVGvnot Z<|z6<|yl Z Z<|zj<|ze<|y6 (fun j => false) (by kernel_rfl) Z (yb (.rest _))<|zTk 0 Z (yo jp j9 Z Z)<|zTk 2 Z (yo jp j9 Z Z)<|zOn 1 Z<|zg (reach_spec f hE hn) Z<|z6<|zOn 3 Z<|zg (preds_spec f hE (by omega)) Z<|z6<|zTk 4 Z (zAf Z)<|zTk 5 Z (zAf Z)<|zDn<|zSr<|zVzFF jd Z jw Z Z<|zVzLf Z3 Z<|zVGvlenM jc Z<|AOps.makeI (m := f.blocks.length) j6 jz Z Z Z Z Z (by simp) (by simp) (by show (8 : Int) * _ ≤ _; omega) (by omega)<|fun i27 => z8 (zAo Z)<|zVzAi Z<|z6<|ze<|zSr<|z8 (zMo Z)<|z8 (Gv.lenO j6 Z) ?_
 refine zVzMi Z<|z6<|zi<|y7 (γ := Nat) [1, 2, 4, 5, 6, 29] (fun g => [(30, .int .i64 g), (7, .int .i64 (cntR f g))]) (fun g => [(i27, .grow 1 3 (cI (numL f g))), (i2, .cells 26 [.raw (.slice none 0 0), .raw (.slice none 0 0), .raw (.slice none 0 0)])]) (fun g => g ≤ f.blocks.length) (fun g => f.blocks.length - g) 0 zR2 ⟨_, (.refl _), by rw [numL_zero]; rfl⟩ (qd _) ?_
 rintro k hk
 refine zSr<|zVGvlss Z Z<|z6<|ze<|y2 Z (fun ck=>?_) (fun ck=>?_)
 ·have hk2 : k < f.blocks.length := by omega
  have hcl := cntR_le f k
  have hgb := reachB_get (E := EndsOf f) hE.grph.toEOk hk2
  refine zj<|ze<|zi<|zSr<|zVzMi Z<|zVzAi Z<|z6<|zSr<|z8 (zMo Z)<|zVzMi Z<|z8 (q0 (j := k) j6 j8 Z Z Z ⟨_, .head⟩ (by rw [cI_len, numL_len]) hk2)<|yy (j := k) j8 Z Z .head (by rw [numL_len]; exact hk2)<|z6<|zSr<|zVzMf Z<|zVzMi Z<|z8 (zIM k Y1 Y0 Z Z Z hgb)<|z8 (yp (c := .bool _) isAgg4 Z)<|z6<|y2 Z (fun cr=>?_) (fun cr=>?_)
  ·have cr : (k : Int) ∈ ord f := by first | exact cr | (have h := cr; simp at h; exact h)
   have hset : ((numL f k).set k (-1)).set k (cntR f k : Int) = numL f (k + 1) := by rw [List.set_set, ← numL_set hk2, nmb_cnt hE, if_pos cr]
   refine zSr<|z8 (zMo Z)<|zVzMi Z<|zVzMi Z<|z8 (q0 (j := k) j6 j8 Z Z Z ⟨_, .head⟩ (by rw [cI_len, List.length_set, numL_len]) hk2)<|yy (j := k) j8 Z Z .head (by rw [List.length_set, numL_len]; exact hk2)<|z6<|zRg<|zVzMi Z<|zVzAd Z Z<|zVzAi Z<|z6<|zRg<|zVzAd Z Z<|zVzMi Z<|z6 ?_
   exact ⟨k + 1, ⟨rfl, rfl, rfl, rfl, rfl, rfl, trivial⟩, ⟨rfl, congrArg (AV.int .i64) (by rw [cntR_succ, if_pos cr]; push_cast; rfl), trivial⟩, ⟨_, (.refl _), by rw [← hset]⟩, hk2, by omega⟩
  ·have cr : ¬ (k : Int) ∈ ord f := by first | exact cr | (have h := cr; simp at h; exact h)
   have hset : (numL f k).set k (-1) = numL f (k + 1) := by rw [← numL_set hk2, nmb_cnt hE, if_neg cr]
   refine zj<|zRg<|zVzAd Z Z<|zVzMi Z<|z6 ?_
   exact ⟨k + 1, ⟨rfl, rfl, rfl, rfl, rfl, rfl, trivial⟩, ⟨rfl, congrArg (AV.int .i64) (by rw [cntR_succ, if_neg cr]; push_cast; omega), trivial⟩, ⟨_, (.refl _), by rw [← hset]⟩, hk2, by omega⟩
 ·obtain rfl : k = f.blocks.length := by omega
  refine y4 (GStep.knowI (t := 6) Z .head (numL_len f _))<|y5<|zSr<|zVGvloadWF jp j9 Z Z<|zg (copyF_spec f hf) Z<|zo (cs := [.raw (.slice none 0 0), .raw (.slice none 0 0), .raw (.slice none 0 0)]) jn Z Z<|fun i9 => zh j9 Z Z Z Z Z Z .head Z<|z6<|zSr<|z8 (zf jd Z jw (by decide) Z Z)<|ya (l := [_]) (new := [_, _, _]) jw Z Z Z Z Z Z .head Z Z<|z6<|ze<|zSr<|zVGvloadWF jp j9 Z Z<|yv Z (yb (.r (.r (.rest _)))) (copyP_own f hf) ?_
  rintro r51 O51 ⟨⟨ib, ids⟩, rfl, rfl, hids⟩
  refine z8 (Gv.field1 (v := .own _ _) jd Z Z3 Z Z)<|z8 (Gv.lenO jc Z)<|zVzMi Z<|z6<|adoptC_wp (off := 2) (k := 7) (T := 69) (fun _ => .t2) Z<|fun jb => y4 (zb (zc .t4))<|y4 (zb (zc .t3))<|y4 (zb (zc .t3))<|y4 (zb (zc .t3))<|y4 (zb (zc .t4))<|zi<|y7 (γ := Nat × Nat) [1, 2, 4, 5, 6, 9, 52, 53] (fun g => [(54, .int .i64 g.1)]) (fun g => [(i9, .cells 26 [.fro 2 (f.vars.map encVar), .fro 1 (f.params.map encI), .own g.2 (cntR f g.1)]), (g.2, .grow 7 69 ((prT f g.1).map encBlk).flatten), (ib, .grow 7 69 (blkPs ids f.blocks)), (0, bag (bagPs (ids.drop g.1) (f.blocks.drop g.1))), (i2, .cells 26 [.raw (.slice none 0 0), .raw (.slice none 0 0), .raw (.slice none 0 0)])]) (fun g => g.1 ≤ f.blocks.length) (fun g => f.blocks.length - g.1) (0, jb) zR1 zLe (qd _) ?_
  rintro ⟨k, jb⟩ hk
  try dsimp only at *
  refine zSr<|zVGvlss Z Z<|z6<|ze<|y2 Z (fun ck=>?_) (fun ck=>?_)
  ·have hk2 : k < f.blocks.length := by omega
   obtain ⟨b, hb⟩ : ∃ b, f.blocks[k] = b := ⟨_, rfl⟩
   have hgb : f.blocks[k]? = some b := by rw [qa hk2, hb]
   obtain ⟨ip, hip⟩ : ∃ ip, ids[k]? = some ip := ⟨_, qa (by omega)⟩
   have hne : blkPs ids f.blocks ≠ [] := fun h => by have := congrArg List.length h; rw [blkPs_len hids] at this; simp at this; omega
   have hout : bagPs (ids.drop k) (f.blocks.drop k) = phiO ip b :: bagPs (ids.drop (k + 1)) (f.blocks.drop (k + 1)) := by
    obtain ⟨hi1, hi2⟩ := List.getElem?_eq_some_iff.1 hip
    rw [List.drop_eq_getElem_cons hi1, List.drop_eq_getElem_cons hk2, hi2, hb]; rfl
   refine zj<|ze<|zi<|zSr<|zVzMi Z<|z8 (Gv.idxO (j := k) jc jm Z Z Z ⟨_, .t2⟩ hne hk2)<|z8 (Gv.loadAG (l := [_, _, _, _, _, _, _]) Ze jm Z ⟨_, .t2⟩ hne (by rw [blkPs_len hids]; show k * 7 + 7 ≤ _; omega) (blkPs_row hip hgb))<|zo (cs := [.str ⟨#[]⟩, .raw (.slice none 0 0), .raw (.slice none 0 0), .int .i64 0, .int .i64 0, .int .i64 0, .int .i64 0]) Z0 Z Z<|fun i11 => zVzAi Z<|zh jm Z Z Z Z Z Z .head Z<|z6<|ze<|zSr<|zVzMf Z<|zVzMi Z<|z8 (zIM k Y1 Y0 Z Z Z (reachB_get (E := EndsOf f) hE.grph.toEOk hk2))<|z8 (yp (c := .bool _) isAgg4 Z)<|zVGvnot Z<|z6<|y4 (GStep.bagOut (i := ip) (o := .grow 3 71 (b.phis.map encPhi).flatten) (X' := bagPs (ids.drop (k + 1)) (f.blocks.drop (k + 1))) ((by rw [hout]; exact List.Perm.refl _)) .t4)<|y3 Z (fun cr=>?_) (fun cr=>?_)
   ·have cr : ¬ (k : Int) ∈ ord f := by first | exact cr | (have h := cr; simp at h; exact h)
    refine y4 (GStep.drop .head)<|y5<|zRg<|zVzAd Z Z<|zVzMi Z<|z6 ?_
    exact ⟨(k + 1, jb), zR8, zR1, ⟨_, (.drop (.refl _)), by rw [prT_succ, cntR_succ, if_neg cr, if_neg cr, List.append_nil]; rfl⟩, hk2, by dsimp only; omega⟩
   ·have cr : (k : Int) ∈ ord f := by first | exact cr | (have h := cr; simp at h; exact h)
    refine zj<|ze<|zSr<|z8 (zf j7 Z Z6 (by decide) Z Z)<|z8 (zp (c := .own _ _) Zk Z ⟨_, .t1⟩ Z)<|z8 (Gv.lenO jo Z)<|zVzMi Z<|z6 ?_
    have hbk : blkX f k = b := blkX_get hgb
    obtain ⟨hb0, hb1, hb2, hb3, hb4⟩ := hf.2.2.2.2 b (hb ▸ qe hk2)
    have hphl : ∀ m, (phT f k b m).length = b.phis.length := fun m => by unfold phT; rw [qg, qh, ql, List.length_drop]; omega
    have hpcl : ∀ m, (((phT f k b m).map encPhi).flatten).length = b.phis.length * 3 := fun m => by rw [grow_len (k := 3) (fun _ => rfl), hphl]
    refine zi<|y7 (γ := Nat) [1, 2, 4, 5, 6, 9, 10, 11, 52, 53, 54, 65, 66] (fun g => [(67, .int .i64 g)]) (fun g => [(ip, .grow 3 71 ((phT f k b g).map encPhi).flatten), (i11, .cells 69 [.str b.name, .own ip b.phis.length, .fro 4 (b.insts.map encInst), .int .i64 b.term.kind, .int .i64 b.term.var, .int .i64 b.term.to0, .int .i64 b.term.to1]), (i9, .cells 26 [.fro 2 (f.vars.map encVar), .fro 1 (f.params.map encI), .own jb (cntR f k)]), (jb, .grow 7 69 ((prT f k).map encBlk).flatten), (ib, .grow 7 69 (blkPs ids f.blocks)), (0, bag (bagPs (ids.drop (k + 1)) (f.blocks.drop (k + 1)))), (i2, .cells 26 [.raw (.slice none 0 0), .raw (.slice none 0 0), .raw (.slice none 0 0)])]) (fun g => g ≤ b.phis.length) (fun g => b.phis.length - g) 0 zR1 zLe (qd _) ?_
    rintro m hm
    refine zSr<|zVGvlss Z Z<|z6<|ze<|y2 Z (fun cm=>?_) (fun cm=>?_)
    ·have hm2 : m < b.phis.length := by omega
     obtain ⟨p, hp⟩ : ∃ p, b.phis[m] = p := ⟨_, rfl⟩
     have hpm : p ∈ (blkX f k).phis := by rw [hbk, ← hp]; exact qe hm2
     have hps := phi_shape hS (x := k) (by omega) (by omega) hpm
     have hpl := hb3 p (by rw [← hp]; exact qe hm2)
     have hpn : ((phT f k b m).map encPhi).flatten ≠ [] := fun h => by have := hpcl m; rw [h] at this; simp at this; omega
     have hrow : ((((phT f k b m).map encPhi).flatten).drop (m * 3)).take 3 = encPhi p := by rw [← hp]; exact phT_row hm2
     have hset : (((phT f k b m).map encPhi).flatten).take (m * 3) ++ encPhi (pruneP (nmb f) (frL f k) p) ++ (((phT f k b m).map encPhi).flatten).drop (m * 3 + 3) = ((phT f k b (m + 1)).map encPhi).flatten := by rw [← hp]; exact phT_set hm2
     have hng : ∀ c ∈ p.from_, 0 ≤ c ∧ (numL f f.blocks.length)[c.toNat]? = some (nmb f c) := fun c hc => by
      have h7 := List.all_eq_true.1 hps.2.2.2.2 c hc
      unfold hasB at h7
      simp only [qo, qq] at h7
      exact ⟨h7.1, numL_get h7.1 h7.2⟩
     refine zj<|ze<|zi<|zSr<|zVzMi Z<|z8 (Gv.idxO (j := m) jo ju Z Z Z ⟨_, .head⟩ hpn hm2)<|z8 (Gv.loadAG (l := [_, _, _]) Zj ju Z ⟨_, .head⟩ hpn (by rw [hpcl]; show m * 3 + 3 ≤ _; omega) hrow)<|zo (cs := [.int .i64 0, .raw (.slice none 0 0), .raw (.slice none 0 0)]) Z9 Z Z<|fun i13 => zVzAi Z<|zh ju Z Z Z Z Z Z .head Z<|z6<|y6 (fun j => Nat.beq j 11) (by kernel_rfl) Z (yb (.r (.l (.r (.rest _)))))<|zTk 0 Z (zf j7 Z Z6 (by decide) Z Z)<|zTk 1 Z (zp (c := .own _ _) Zk Z ⟨_, .t1⟩ Z)<|zTk 2 Z (zMi Z)<|zTk 3 Z (yh Zj ju Z ⟨_, .head⟩ Z)<|zTk 4 Z (zMf Z)<|zTk 5 Z (zMi Z)<|zTk 6 Z (zIM k underlying97 ji Z Z Z (predsR_row f hk2))<|zTk 7 Z (zLf jq Z)<|zTk 8 Z (zMf Z)<|zOn 9 Z<|zg (gphi_spec p (frL f k) (numL f f.blocks.length) (nmb f) hps.2.1.symm hpl.1 hfr hng) Z<|z6<|zOn 10 Z<|z8 (Gv.idxO (j := m) jo ju Z Z Z ⟨_, .head⟩ hpn hm2)<|z6<|zw<|zu (i := 11) Z (by kernel_rfl) (by kernel_rfl)<|AOps.storeG (l := [_, _, _]) (new := ((phT f k b (m + 1)).map encPhi).flatten) ju Z Z Z Z Z Z .t2 (by rw [hpcl]; show m * 3 + 3 ≤ _; omega) (by decide) hset<|z6<|zz (by kernel_rfl)<|y4 (zb (zc .t7))<|y4 (zb (zc .t7))<|y4 (zb (zc .t7))<|y4 (zb (zc .t7))<|y4 (zb (zc .t7))<|y4 (zb (zc .t6))<|y4 (zb (zc .t7))<|zRg ?_
     refine zVzAd Z Z<|zVzMi Z<|z6 ?_
     exact ⟨m + 1, ⟨rfl, rfl, rfl, rfl, rfl, rfl, rfl, rfl, rfl, rfl, rfl, rfl, rfl, trivial⟩, zR1, ⟨_, (.keep (.keep (.keep (.keep (.keep (.keep (.keep (.drop (.refl _))))))))), rfl⟩, hm2, by omega⟩
    ·obtain rfl : m = b.phis.length := by omega
     have hpe : phT f k b b.phis.length = b.phis.map (pruneP (nmb f) (frL f k)) := by unfold phT; rw [qf, List.drop_length, List.append_nil]
     rw [hpe]
     have hel := endsL_len b.term
     have her := hE.rng b (hb ▸ qe hk2)
     refine y4 (yn (off := 1) (rows := (b.phis.map (pruneP (nmb f) (frL f k))).map encPhi) .head .head Z (by intro r hr; obtain ⟨z, _, rfl⟩ := List.mem_map.1 hr; rfl) (by decide) (by rw [qh, qh]))<|y5<|ze<|zSr<|z8 (zf j7 Z jv (by decide) Z Z)<|z8 (Gv.loadAC (l := [_, _, _, _]) Zy jv Z ⟨_, .head⟩ Z Z)<|zg (ends_spec b.term) Z<|zVGvlenM j6 Z<|zVzMi Z<|z6<|zi<|y7 (γ := Nat) [1, 2, 4, 5, 6, 9, 10, 11, 52, 53, 54, 86, 87] (fun g => [(88, .int .i64 g)]) (fun g => [(i11, .cells 69 [.str b.name, .fro 3 ((b.phis.map (pruneP (nmb f) (frL f k))).map encPhi), .fro 4 (b.insts.map encInst), .int .i64 b.term.kind, .int .i64 b.term.var, .int .i64 (eT f b g).1, .int .i64 (eT f b g).2]), (i9, .cells 26 [.fro 2 (f.vars.map encVar), .fro 1 (f.params.map encI), .own jb (cntR f k)]), (jb, .grow 7 69 ((prT f k).map encBlk).flatten), (ib, .grow 7 69 (blkPs ids f.blocks)), (0, bag (bagPs (ids.drop (k + 1)) (f.blocks.drop (k + 1)))), (i2, .cells 26 [.raw (.slice none 0 0), .raw (.slice none 0 0), .raw (.slice none 0 0)])]) (fun g => g ≤ (endsL b.term).length) (fun g => (endsL b.term).length - g) 0 zR1 zLe (qd _) ?_
     rintro j hj
     refine zSr<|zVGvlss Z Z<|z6<|ze<|y2 Z (fun cj=>?_) (fun cj=>?_)
     ·have hj2 : j < (endsL b.term).length := by omega
      obtain ⟨x, hx⟩ : ∃ x, (endsL b.term)[j] = x := ⟨_, rfl⟩
      have hgx : (endsL b.term)[j]? = some x := by rw [qa hj2, hx]
      have hxr := her x (hx ▸ qe hj2)
      have hj01 : j = 0 ∨ j = 1 := by omega
      refine zj<|ze<|zi<|zSr<|zVzMi Z<|z8 (zIM j j6 j8 Z Z Z hgx)<|zVzLi jl Z<|zVzAi Z<|zVzAi Z<|z6 ?_
      rcases hj01 with rfl | rfl
      ·have he1 : eT f b (0 + 1) = (nmb f x, (eT f b 0).2) := by unfold eT; rw [hgx]; rfl
       refine zRg<|zVzMi Z<|zVzMf Z<|zVzMi Z<|z8 (zIM x.toNat j6 j8 Z Z (by omega) (numL_get hxr.1 hxr.2))<|zVzLi jl Z<|z8 (zf j7 Z jv (by decide) Z Z)<|z8 (zf je Z jy (by decide) Z Z)<|z8 (Gv.idxAO (j := 0) jr j8 Z Z Z (by decide) Z)<|ya (l := [_]) (new := [_, _, _, _, _, _, _]) j8 Z Z Z Z Z Z .head Z Z<|z6<|zRg<|zVzAd Z Z<|zVzMi Z<|z6 ?_
       exact ⟨0 + 1, ⟨rfl, rfl, rfl, rfl, rfl, rfl, rfl, rfl, rfl, rfl, rfl, rfl, rfl, trivial⟩, zR1, ⟨_, (.refl _), by rw [he1]; rfl⟩, hj2, by omega⟩
      ·have he2 : eT f b (1 + 1) = ((eT f b 1).1, nmb f x) := by unfold eT; rw [hgx]; rfl
       refine zRg<|zVzMi Z<|zVzMf Z<|zVzMi Z<|z8 (zIM x.toNat j6 j8 Z Z (by omega) (numL_get hxr.1 hxr.2))<|zVzLi jl Z<|z8 (zf j7 Z jv (by decide) Z Z)<|z8 (zf je Z jy (by decide) Z Z)<|z8 (Gv.idxAO (j := 1) jr j8 Z Z Z (by decide) Z)<|ya (l := [_]) (new := [_, _, _, _, _, _, _]) j8 Z Z Z Z Z Z .head Z Z<|z6<|zRg<|zVzAd Z Z<|zVzMi Z<|z6 ?_
       exact ⟨1 + 1, ⟨rfl, rfl, rfl, rfl, rfl, rfl, rfl, rfl, rfl, rfl, rfl, rfl, rfl, trivial⟩, zR1, ⟨_, (.refl _), by rw [he2]; rfl⟩, hj2, by omega⟩
     ·obtain rfl : j = (endsL b.term).length := by omega
      have hpush : ∀ t0 t1 : Int, (⟨b.term.kind, b.term.var, t0, t1⟩ : PTerm) = trmM id (nmb f) b.term → ((prT f k).map encBlk).flatten ++ [AV.str b.name, .fro 3 ((b.phis.map (pruneP (nmb f) (frL f k))).map encPhi), .fro 4 (b.insts.map encInst), .int .i64 b.term.kind, .int .i64 b.term.var, .int .i64 t0, .int .i64 t1] = ((prT f (k + 1)).map encBlk).flatten := fun t0 t1 h => by
       rw [prT_succ, if_pos cr, qk, List.flatten_append, hbk]
       congr 1
       show _ = ([encBlk (pruneB (nmb f) (frL f k) b)] : List (List AV)).flatten
       unfold pruneB
       rw [← h]; rfl
      have hcl := cntR_le f k
      have hcn : cntR f (k + 1) = cntR f k + 1 := by rw [cntR_succ, if_pos cr]
      have hjl : (((prT f k).map encBlk).flatten).length = cntR f k * 7 := by rw [grow_len (k := 7) (fun _ => rfl), prT_len]
      refine y5<|ze<|ze<|y6 (fun j => false) (by kernel_rfl) Z (yb (.r (.rest _)))<|zTk 0 Z (zf j7 Z jv (by decide) Z Z)<|zTk 1 Z (zf je Z Zg (by decide) Z Z)<|zTk 2 Z (zp (c := .int _ _) Zl Z ⟨_, .head⟩ Z)<|zTk 3 Z (Gv.eqlI Z Z)<|zTk 4 Z (zMb Z)<|AAny.case (s := 106) Z (fun c5=>?_) (fun c5=>?_)
      ·have hk1 : b.term.kind = 1 := by simpa using c5
       refine zTt 5 Z Z Z c5 (zFF jd Z jw Z Z)<|zTt 6 Z Z Z c5 (zLf Z3 Z)<|zTt 7 Z Z Z c5 (zMi Z)<|zTt 8 Z Z Z c5 (zIM k jc jm Z Z Z hgb)<|zTt 9 Z Z Z c5 (zFF j7 Z jv Z Z)<|zTt 10 Z Z Z c5 (zFF je Z jy Z Z)<|zTt 11 Z Z Z c5 (yr (j := 0) jr j8 Z Z Z (by decide) Z)<|zTt 12 Z Z Z c5 (zLi jl Z)<|zTt 13 Z Z Z c5 (zFF jd Z jw Z Z)<|zTt 14 Z Z Z c5 (zLf Z3 Z)<|zTt 15 Z Z Z c5 (zMi Z)<|zTt 16 Z Z Z c5 (zIM k jc jm Z Z Z hgb)<|zTt 17 Z Z Z c5 (zFF j7 Z jv Z Z)<|zTt 18 Z Z Z c5 (zFF je Z jy Z Z)<|zTt 19 Z Z Z c5 (yr (j := 1) jr j8 Z Z Z (by decide) Z)<|zTt 20 Z Z Z c5 (zLi jl Z)<|zTt 21 Z Z Z c5 (Gv.eqlI Z Z)<|zTk 22 Z (zPt Z c5 Z)<|zDn<|y3 Z (fun c6=>?_) (fun c6=>?_)
       ·refine zRg<|z8 (zf j7 Z jv (by decide) Z Z)<|z8 (zf je Z jy (by decide) Z Z)<|z8 (Gv.idxAO (j := 0) jr j8 Z Z Z (by decide) Z)<|z8 (zp (c := .int _ _) jl Z ⟨_, .head⟩ Z)<|z8 (zf j7 Z jv (by decide) Z Z)<|z8 (zf je Z jy (by decide) Z Z)<|z8 (Gv.idxAO (j := 1) jr j8 Z Z Z (by decide) Z)<|ya (l := [_]) (new := [_, _, _, _, _, _, _]) j8 Z Z Z Z Z Z .head Z Z<|z6<|zRg<|z8 (zf jd Z jw (by decide) Z Z)<|z8 (zp (c := .own _ _) Z3 Z ⟨_, .t1⟩ Z)<|z8 (yh Ze jm Z ⟨_, .head⟩ Z)<|zr (rows := [[_, _, _, _, _, _, _]]) ps24_1 Z Z Z Z Z<|zq (k := 7) jc Zd Z Z Z Z Z (fun _ => .t2) hjl (by decide) Z (by show (_ + _) * 96 ≤ _; simp <;> omega) (by simp <;> omega)<|fun i136 => z8 (zf jd Z jw (by decide) Z Z)<|ya (l := [_]) (new := [_, _, _]) jw Z Z Z Z Z Z .t1 Z Z<|z6<|zRg<|zVzAd Z Z<|zVzMi Z<|z6 ?_
        exact ⟨(k + 1, i136), zR8, zR1, ⟨_, (.drop (.refl _)), by rw [hcn, ← hpush _ _ (eT_same hk1 (by simpa using c6))]; rfl⟩, hk2, by dsimp only; omega⟩
       ·refine zj<|zRg<|z8 (zf jd Z jw (by decide) Z Z)<|z8 (zp (c := .own _ _) Z3 Z ⟨_, .t1⟩ Z)<|z8 (yh Ze jm Z ⟨_, .head⟩ Z)<|zr (rows := [[_, _, _, _, _, _, _]]) ps24_1 Z Z Z Z Z<|zq (k := 7) jc Zd Z Z Z Z Z (fun _ => .t2) hjl (by decide) Z (by show (_ + _) * 96 ≤ _; simp <;> omega) (by simp <;> omega)<|fun i136 => z8 (zf jd Z jw (by decide) Z Z)<|ya (l := [_]) (new := [_, _, _]) jw Z Z Z Z Z Z .t1 Z Z<|z6<|zRg<|zVzAd Z Z<|zVzMi Z<|z6 ?_
        exact ⟨(k + 1, i136), zR8, zR1, ⟨_, (.drop (.refl _)), by rw [hcn, ← hpush _ _ (eT_two hk1 (by simpa using c6))]; rfl⟩, hk2, by dsimp only; omega⟩
      ·have hk1 : ¬ b.term.kind = 1 := by simpa using c5
       refine zTf 5 Z Z Z c5<|zTf 6 Z Z Z c5<|zTf 7 Z Z Z c5<|zTf 8 Z Z Z c5<|zTf 9 Z Z Z c5<|zTf 10 Z Z Z c5<|zTf 11 Z Z Z c5<|zTf 12 Z Z Z c5<|zTf 13 Z Z Z c5<|zTf 14 Z Z Z c5<|zTf 15 Z Z Z c5<|zTf 16 Z Z Z c5<|zTf 17 Z Z Z c5<|zTf 18 Z Z Z c5<|zTf 19 Z Z Z c5<|zTf 20 Z Z Z c5<|zTf 21 Z Z Z c5<|zTk 22 Z (zPf Z c5 Z)<|zDn<|yl Z Z<|zj<|zRg<|z8 (zf jd Z jw (by decide) Z Z)<|z8 (zp (c := .own _ _) Z3 Z ⟨_, .t1⟩ Z)<|z8 (yh Ze jm Z ⟨_, .head⟩ Z)<|zr (rows := [[_, _, _, _, _, _, _]]) ps24_1 Z Z Z Z Z<|zq (k := 7) jc Zd Z Z Z Z Z (fun _ => .t2) hjl (by decide) Z (by show (_ + _) * 96 ≤ _; simp <;> omega) (by simp <;> omega)<|fun i136 => z8 (zf jd Z jw (by decide) Z Z)<|ya (l := [_]) (new := [_, _, _]) jw Z Z Z Z Z Z .t1 Z Z<|z6<|zRg<|zVzAd Z Z<|zVzMi Z<|z6 ?_
       exact ⟨(k + 1, i136), zR8, zR1, ⟨_, (.drop (.refl _)), by rw [hcn, ← hpush _ _ (eT_one hk1)]; rfl⟩, hk2, by dsimp only; omega⟩
  ·obtain rfl : k = f.blocks.length := by omega
   have hpr : prT f f.blocks.length = (pruneF f).blocks := rfl
   rw [hpr]
   refine y4 (yn (off := 2) (rows := (pruneF f).blocks.map encBlk) .t1 .head Z (by intro r hr; obtain ⟨z, _, rfl⟩ := List.mem_map.1 hr; rfl) (by decide) (by rw [qh, ← hpr, prT_len]))<|y5<|ze<|zSr<|z8 (yh jp j9 Z ⟨_, .head⟩ Z)<|zg (hjo) Z<|zVGvneqI Z Z<|z6<|yl Z Z<|zj<|zSr<|z8 (yh jp j9 Z ⟨_, .head⟩ Z)<|zh j9 Z Z Z Z Z Z .t3 Z<|zVzAi Z<|z6<|zk<|afin.c1t (y := .int _ _) Z Z ⟨_, .t3⟩ jp j9 Z ?_
   rfl
end Go.Proofs.YtpojdepccecpgaaGreatDoor
