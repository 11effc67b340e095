/- What the printer holds for shaped. No conditions but bounds. -/
import Derived.Test.YtpojdepccecpgaaGreatDoorLg
import Derived.Test.YtpojdepccecpgaaGreatDoorLd
import Derived.Test.YtpojdepccecpgaaGreatDoorLf
import Derived.Lib.MapLaws
set_option linter.unusedVariables false
set_option linter.unusedSimpArgs false
set_option linter.unusedSectionVars false
namespace Go.Proofs.YtpojdepccecpgaaGreatDoor
open Go.Proofs.Tryz
open Go.Proofs Go.Lib Go.Shelf Go.RowKit
theorem pl26 : Places prog 26 #[(0, 1), (1, 1), (2, 1)] [.raw (.slice none 0 0), .raw (.slice none 0 0), .raw (.slice none 0 0)] := ⟨_, _, j8, Zo, fun w => by kernel_rfl, rfl⟩
theorem pl69 : Places prog 69 #[(0, 1), (1, 1), (2, 1), (3, 4)] [.str ⟨#[]⟩, .raw (.slice none 0 0), .raw (.slice none 0 0), .int .i64 0, .int .i64 0, .int .i64 0, .int .i64 0] := ⟨_, _, j6, Z4, fun w => by kernel_rfl, rfl⟩
theorem pl71 : Places prog 71 #[(0, 1), (1, 1), (2, 1)] [.int .i64 0, .raw (.slice none 0 0), .raw (.slice none 0 0)] := ⟨_, _, jg, Zb, fun w => by kernel_rfl, rfl⟩
theorem ps67_1 : PlacesS prog 67 71 1 3 [.int .i64 0, .raw (.slice none 0 0), .raw (.slice none 0 0)] := ⟨_, jq, js, Zb, by decide, by decide, by kernel_rfl⟩
theorem ps62_1 : PlacesS prog 62 61 1 4 [.int .i64 0, .int .i64 0, .raw (.slice none 0 0), .int .i64 0] := ⟨_, jw, jz, Zy, by decide, by decide, by kernel_rfl⟩
theorem ps24_1 : PlacesS prog 24 69 1 7 [.str ⟨#[]⟩, .raw (.slice none 0 0), .raw (.slice none 0 0), .int .i64 0, .int .i64 0, .int .i64 0, .int .i64 0] := ⟨_, jh, jm, Z4, by decide, by decide, by kernel_rfl⟩
set_option maxRecDepth 20000
variable {E : World}
def smallBlk (b : PBlock) : Prop := b.name.size ≤ 1000 ∧ b.phis.length ≤ 1000 ∧ b.insts.length ≤ 1000 ∧ (∀ p ∈ b.phis, p.args.length ≤ 1000 ∧ p.from_.length ≤ 1000) ∧ ∀ x ∈ b.insts, x.args.length ≤ 1000
def small (f : PFunc) : Prop := f.vars.length ≤ 1000 ∧ f.params.length ≤ 1000 ∧ f.blocks.length ≤ 1000 ∧ (∀ v ∈ f.vars, v.name.size ≤ 1000) ∧ ∀ b ∈ f.blocks, smallBlk b
theorem small.ok {f : PFunc} (h : small f) : okFunc f := by
 obtain ⟨h1, h2, h3, h4, h5⟩ := h
 refine ⟨by unfold okL; omega, by unfold okL; omega, by unfold okL; omega, fun b hb => ?_⟩
 obtain ⟨g1, g2, g3, g4, g5⟩ := h5 b hb
 exact ⟨by unfold okL; omega, by unfold okL; omega, fun p hp => ⟨by have := g4 p hp; unfold okL; omega, by have := g4 p hp; unfold okL; omega⟩, fun x hx => by have := g5 x hx; unfold okL; omega⟩
theorem small.names {f : PFunc} (h : small f) : okNames f := ⟨fun v hv => by have := h.2.2.2.1 v hv; omega, fun b hb => by have := (h.2.2.2.2 b hb).1; omega⟩
theorem all_cell {α : Type} {enc : α → List AV} (h : ∀ x, (enc x).all AV.cell = true) (xs : List α) : (xs.map enc).flatten.all AV.cell = true := by
 induction xs with
 | nil => rfl
 | cons x xs ih => simp only [List.map_cons, List.flatten_cons, List.all_append, h, ih, Bool.and_self]
theorem cloneI_own (xs : List Int) (hl : xs.length ≤ 1000) : ACall prog E 27 [.fro 1 (xs.map encI)] [] (fun x O' => ∃ i : Nat, x = .own i xs.length ∧ Left O' [(i, .grow 1 3 (xs.map encI).flatten)] ∧ True) := by
 refine zl func27 Z (by decide) Z<|zSr<|z8 (zAr Z)<|z6<|zb<|zSr<|zVzMf Z<|AOps.isNil j4 Z Z (fun hnil=>?_) ?_
 ·have hx : xs = [] := by simpa using hnil
  subst hx
  refine z6<|yq Z Z<|zSr<|z8 (zAr Z)<|z6<|zf ?_
  repeat (first | refine aseqQ_ret ?_ | refine ablockQ_ret ?_)
  refine adopt_fin (s := 2) (k := 1) (T := 3) Z (fun i=>?_)
  refine zj (x := .own _ _) Z ?_
  exact ⟨i, rfl, .refl _, trivial⟩
 ·refine z6<|ym Z Z<|ze<|zSr<|yb (k := 1) j4 Zi<|fun i5 => zVzMf Z<|y5 (k := 1) j4 Zi Z Z Z Z Z (fun _ => .head) (by simp) (by decide) (all_cell (fun _ => Z) xs) (by show (_ + _) * 8 ≤ _; simp <;> omega) (by simp <;> omega)<|fun i7 => z8 (zAo Z)<|z6<|zf<|zj (x := .own _ _) Z ?_
  exact ⟨i7, (by simp), ⟨_, .refl _, rfl⟩, trivial⟩
theorem cloneV_own (xs : List PVar) (hl : xs.length ≤ 1000) : ACall prog E 84 [.fro 2 (xs.map encVar)] [] (fun x O' => ∃ i : Nat, x = .own i xs.length ∧ Left O' [(i, .grow 2 58 (xs.map encVar).flatten)] ∧ True) := by
 refine zl func84 Z (by decide) Z<|zSr<|z8 (zAr Z)<|z6<|zb<|zSr<|zVzMf Z<|AOps.isNil jv Z Z (fun hnil=>?_) ?_
 ·have hx : xs = [] := by simpa using hnil
  subst hx
  refine z6<|yq Z Z<|zSr<|z8 (zAr Z)<|z6<|zf ?_
  repeat (first | refine aseqQ_ret ?_ | refine ablockQ_ret ?_)
  refine adopt_fin (s := 2) (k := 2) (T := 58) Z (fun i=>?_)
  refine zj (x := .own _ _) Z ?_
  exact ⟨i, rfl, .refl _, trivial⟩
 ·refine z6<|ym Z Z<|ze<|zSr<|yb (k := 2) jv type58<|fun i5 => zVzMf Z<|y5 (k := 2) jv type58 Z Z Z Z Z (fun _ => .head) (by simp) (by decide) (all_cell (fun _ => Z) xs) (by show (_ + _) * 24 ≤ _; simp <;> omega) (by simp <;> omega)<|fun i7 => z8 (zAo Z)<|z6<|zf<|zj (x := .own _ _) Z ?_
  exact ⟨i7, (by simp), ⟨_, .refl _, rfl⟩, trivial⟩
theorem cloneI_spec (xs : List Int) (hl : xs.length ≤ 1000) : AFun prog E 27 [.fro 1 (xs.map encI)] (.fro 1 (xs.map encI)) := (cloneI_own xs hl).frozen (by simp [encI]) (by decide) (by simp)
theorem cloneV_spec (xs : List PVar) (hl : xs.length ≤ 1000) : AFun prog E 84 [.fro 2 (xs.map encVar)] (.fro 2 (xs.map encVar)) := (cloneV_own xs hl).frozen (by simp [encVar]) (by decide) (by simp)
theorem copyB_own (f : PFunc) (hf : small f) : ACall prog E 50 [.agg (encF f)] [] (fun x O' => ∃ i : Nat, x = .agg [.fro 2 (f.vars.map encVar), .fro 1 (f.params.map encI), .own i f.blocks.length] ∧ Left O' [(i, .grow 7 69 (f.blocks.map encBlk).flatten)] ∧ True) := by
 obtain ⟨hf1, hf2, hf3, hf4, hf5⟩ := hf
 refine zl func50 Z (by decide) Z<|zSr<|y8 (cs := _) Z Z Z<|zu (cs := [.raw (.slice none 0 0), .raw (.slice none 0 0), .raw (.slice none 0 0)]) Zo Z Z<|fun i2 => z6<|zb<|yn (γ := Nat) [1, 2] (fun i => [(3, .po i 0)]) (fun i => [(i, .cells 26 [.fro 2 (f.vars.map encVar), .fro 1 (f.params.map encI), .raw (.slice none 0 0)]), (i2, .cells 26 [.raw (.slice none 0 0), .raw (.slice none 0 0), .raw (.slice none 0 0)])]) (fun i => True) ?_ (fun _ _ h => h) ?_
 ·refine zq (fun j => Nat.beq j 8) (by kernel_rfl) Z (zr (.rest _))<|zTk 0 Z (zFF j8 Z Zl Z Z)<|zTk 1 Z (zLf Zz Z)<|zTk 3 Z (zFF j8 Z je Z Z)<|zTk 4 Z (zLf jn Z)<|q7 (i := 2) (j := 7) Z Z (by kernel_rfl) ?_ ?_
  ·refine zg (cloneV_spec _ (by omega)) Z<|z6<|q7 (i := 5) (j := 7) Z Z (by kernel_rfl) ?_ ?_
   ·refine zg (cloneI_spec _ (by omega)) Z<|z6<|zTk 6 Z (ye (cps := [(0, [_]), (1, [_])]) (rs := [_, _, .raw (.slice none 0 0)]) pl26 Z Z Z)<|zOn 7 Z<|zu (cs := [.raw (.slice none 0 0), .raw (.slice none 0 0), .raw (.slice none 0 0)]) Zo Z Z<|fun i3 => z6<|yc<|yd (i := 8) Z (by kernel_rfl) (by kernel_rfl)<|zt ji Z Z Z Z Z Z .head Z<|z6<|yg (by kernel_rfl) ?_
    exact ⟨i3, zR2, zR1, zLe, trivial⟩
   ·refine zu (cs := [.raw (.slice none 0 0), .raw (.slice none 0 0), .raw (.slice none 0 0)]) Zo Z Z<|fun i3 => z6<|zOn 5 Z<|zg (cloneI_spec _ (by omega)) Z<|z6<|zTk 6 Z (ye (cps := [(0, [_]), (1, [_])]) (rs := [_, _, .raw (.slice none 0 0)]) pl26 Z Z Z)<|yc<|yd (i := 8) Z (by kernel_rfl) (by kernel_rfl)<|zt ji Z Z Z Z Z Z .head Z<|z6<|yg (by kernel_rfl) ?_
    exact ⟨i3, zR2, zR1, zLe, trivial⟩
  ·refine zu (cs := [.raw (.slice none 0 0), .raw (.slice none 0 0), .raw (.slice none 0 0)]) Zo Z Z<|fun i3 => z6<|zOn 2 Z<|zg (cloneV_spec _ (by omega)) Z<|z6<|zOn 5 Z<|zg (cloneI_spec _ (by omega)) Z<|z6<|zTk 6 Z (ye (cps := [(0, [_]), (1, [_])]) (rs := [_, _, .raw (.slice none 0 0)]) pl26 Z Z Z)<|yc<|yd (i := 8) Z (by kernel_rfl) (by kernel_rfl)<|zt ji Z Z Z Z Z Z .head Z<|z6<|yg (by kernel_rfl) ?_
   exact ⟨i3, zR2, zR1, zLe, trivial⟩
 ·rintro i3 _
  refine zb<|zSr<|zVzFF j8 Z ju Z Z<|zVzLf Z5 Z<|zVGvlenM jh Z<|zVzMi Z<|z6<|adoptC_wp (off := 2) (k := 7) (T := 69) (fun _ => .head) Z<|fun ib => zh<|y3 (γ := Nat × Nat) [2, 3, 19, 20] (fun g => [(21, .int .i64 g.1)]) (fun g => [(g.2, .grow 7 69 ((f.blocks.take g.1).map encBlk).flatten), (i3, .cells 26 [.fro 2 (f.vars.map encVar), .fro 1 (f.params.map encI), .own g.2 g.1]), (i2, .cells 26 [.raw (.slice none 0 0), .raw (.slice none 0 0), .raw (.slice none 0 0)])]) (fun g => g.1 ≤ f.blocks.length) (fun g => f.blocks.length - g.1) (0, ib) zR1 zLe (qp _) ?_
  rintro ⟨k, ib⟩ hk
  try dsimp only at *
  refine zSr<|zVGvlss Z Z<|z6<|zb<|zk Z (fun ck=>?_) (fun ck=>?_)
  ·have hk2 : k < f.blocks.length := by omega
   obtain ⟨hb0, hb1, hb2, hb3, hb4⟩ := hf5 _ (qq hk2)
   refine ze<|zb<|zh<|zSr<|z8 (yv jh jm Z Z Z (qm (by omega)))<|zVGvloadWF Zq jm Z Z<|zu (cs := [.str ⟨#[]⟩, .raw (.slice none 0 0), .raw (.slice none 0 0), .int .i64 0, .int .i64 0, .int .i64 0, .int .i64 0]) Z4 Z Z<|fun i5 => zt jm Z Z Z Z Z Z .head Z<|z6<|zSr<|z8 (zc j6 Z Z0 (by decide) Z Z)<|z8 (zi (c := .str _) Zc Z ⟨_, .head⟩ Z)<|z8 (zc j6 Z jx (by decide) Z Z)<|z8 (Gv.loadAC (l := [_, _, _, _]) Ye jx Z ⟨_, .head⟩ Z Z)<|z8 (ye (cps := [(0, [_]), (3, [_, _, _, _])]) (rs := [_, .raw (.slice none 0 0), .raw (.slice none 0 0), _, _, _, _]) pl69 Z Z Z)<|zu (cs := [.str ⟨#[]⟩, .raw (.slice none 0 0), .raw (.slice none 0 0), .int .i64 0, .int .i64 0, .int .i64 0, .int .i64 0]) Z4 Z Z<|fun i6 => zt jm Z Z Z Z Z Z .head Z<|z6<|zb<|zSr<|z8 (zc j6 Z Z8 (by decide) Z Z)<|z8 (zi (c := .fro _ _) Zs Z ⟨_, .t1⟩ Z)<|zVGvlenM jq Z<|zVzMi Z<|z6<|adoptC_wp (off := 1) (k := 3) (T := 71) (fun _ => .head) Z<|fun ip => y6 (zm (zp .t1))<|zh<|y3 (γ := Nat × Nat) [2, 3, 5, 6, 19, 20, 21, 31, 32] (fun g => [(33, .int .i64 g.1)]) (fun g => [(i6, .cells 69 [.str f.blocks[k].name, .own g.2 g.1, .raw (.slice none 0 0), .int .i64 f.blocks[k].term.kind, .int .i64 f.blocks[k].term.var, .int .i64 f.blocks[k].term.to0, .int .i64 f.blocks[k].term.to1]), (g.2, .grow 3 71 ((f.blocks[k].phis.take g.1).map encPhi).flatten), (i5, .cells 69 (encBlk f.blocks[k])), (ib, .grow 7 69 ((f.blocks.take k).map encBlk).flatten), (i3, .cells 26 [.fro 2 (f.vars.map encVar), .fro 1 (f.params.map encI), .own ib k]), (i2, .cells 26 [.raw (.slice none 0 0), .raw (.slice none 0 0), .raw (.slice none 0 0)])]) (fun g => g.1 ≤ f.blocks[k].phis.length) (fun g => f.blocks[k].phis.length - g.1) (0, ip) zR1 zLe (qp _) ?_
   rintro ⟨m, ip⟩ hm
   try dsimp only at *
   refine zSr<|zVGvlss Z Z<|z6<|zb<|zk Z (fun cm=>?_) (fun cm=>?_)
   ·have hm2 : m < f.blocks[k].phis.length := by omega
    obtain ⟨hp1, hp2⟩ := hb3 _ (qq hm2)
    refine ze<|zb<|zh<|zSr<|z8 (yv jq js Z Z Z (qm (by omega)))<|zVGvloadWF Zt js Z Z<|zu (cs := [.int .i64 0, .raw (.slice none 0 0), .raw (.slice none 0 0)]) Zb Z Z<|fun i8 => zt js Z Z Z Z Z Z .head Z<|z6<|zq (fun j => Nat.beq j 14) (by kernel_rfl) Z (zr (.r (.r (.rest _))))<|zTk 0 Z (zc j6 Z Z8 (by decide) Z Z)<|zTk 1 Z (zi (c := .own _ _) Zs Z ⟨_, .t1⟩ Z)<|zTk 2 Z (zc jg Z j5 (by decide) Z Z)<|zTk 3 Z (zi (c := .int _ _) jd Z ⟨_, .head⟩ Z)<|zTk 4 Z (zc jg Z je (by decide) Z Z)<|zTk 5 Z (zi (c := .fro _ _) jn Z ⟨_, .head⟩ Z)<|zTk 7 Z (zc jg Z je (by decide) Z Z)<|zTk 8 Z (zi (c := .fro _ _) jn Z ⟨_, .head⟩ Z)<|zOn 6 Z<|zg (cloneI_spec _ (by omega)) Z<|z6<|zOn 9 Z<|zg (cloneI_spec _ (by omega)) Z<|z6<|zTk 10 Z (ye (cps := [(0, [_]), (1, [_]), (2, [_])]) (rs := [_, _, _]) pl71 Z Z Z)<|zOn 11 Z<|zn (rows := [[_, _, _]]) ps67_1 Z Z Z Z Z<|z6<|zOn 12 Z<|y5 (k := 3) jq type71 Z Z Z Z Z (fun _ => .head) (by rw [grow_len (k := 3) (fun _ => rfl), qx, Nat.min_eq_left hm]) (by decide) Z (by show (_ + _) * 56 ≤ _; simp <;> omega) (by simp <;> omega)<|fun i49 => z6<|zTk 13 Z (zc j6 Z Z8 (by decide) Z Z)<|yc<|yd (i := 14) Z (by kernel_rfl) (by kernel_rfl)<|y1 (l := [_]) (new := [_, _, _, _, _, _, _]) Z8 Z Z Z Z Z Z .t1 Z Z<|z6<|yg (by kernel_rfl)<|zRg<|zVzAd Z Z ?_
    refine zVzMi Z<|z6 ?_
    exact ⟨(m + 1, i49), zR9, zR1, ⟨_, (.drop (.refl _)), by rw [← grow_push (qn hm2)]; rfl⟩, hm2, by dsimp only; omega⟩
   ·obtain rfl : m = f.blocks[k].phis.length := by omega
    refine y2<|zb<|zSr<|z8 (zc j6 Z Zh (by decide) Z Z)<|z8 (zi (c := .fro _ _) Y3 Z ⟨_, .t2⟩ Z)<|zVGvlenM jw Z<|zVzMi Z<|z6<|adoptC_wp (off := 2) (k := 4) (T := 61) (fun _ => .head) Z<|fun ii => zh<|y3 (γ := Nat × Nat) [2, 3, 6, 19, 20, 21, 53, 54] (fun g => [(55, .int .i64 g.1)]) (fun g => [(g.2, .grow 4 61 ((f.blocks[k].insts.take g.1).map encInst).flatten), (i6, .cells 69 [.str f.blocks[k].name, .own ip f.blocks[k].phis.length, .own g.2 g.1, .int .i64 f.blocks[k].term.kind, .int .i64 f.blocks[k].term.var, .int .i64 f.blocks[k].term.to0, .int .i64 f.blocks[k].term.to1]), (ip, .grow 3 71 (f.blocks[k].phis.map encPhi).flatten), (i5, .cells 69 (encBlk f.blocks[k])), (ib, .grow 7 69 ((f.blocks.take k).map encBlk).flatten), (i3, .cells 26 [.fro 2 (f.vars.map encVar), .fro 1 (f.params.map encI), .own ib k]), (i2, .cells 26 [.raw (.slice none 0 0), .raw (.slice none 0 0), .raw (.slice none 0 0)])]) (fun g => g.1 ≤ f.blocks[k].insts.length) (fun g => f.blocks[k].insts.length - g.1) (0, ii) zR1 ⟨_, (.refl _), by rw [qr]; rfl⟩ (qp _) ?_
    rintro ⟨m, ii⟩ hm
    try dsimp only at *
    refine zSr<|zVGvlss Z Z<|z6<|zb<|zk Z (fun cm=>?_) (fun cm=>?_)
    ·have hm2 : m < f.blocks[k].insts.length := by omega
     have hp1 := hb4 _ (qq hm2)
     refine ze<|zb<|zh<|zSr<|z8 (yv jw jz Z Z Z (qm (by omega)))<|zVGvloadWF Y8 jz Z Z<|zu (cs := [.int .i64 0, .int .i64 0, .raw (.slice none 0 0), .int .i64 0]) Zy Z Z<|fun i10 => zt jz Z Z Z Z Z Z .head Z<|z6<|zSr<|z8 (zc jf Z je (by decide) Z Z)<|z8 (zi (c := .fro _ _) jn Z ⟨_, .head⟩ Z)<|zg (cloneI_spec _ (by omega)) Z<|z8 (zc jf Z je (by decide) Z Z)<|y1 (l := [_]) (new := [_, _, _, _]) je Z Z Z Z Z Z .head Z Z<|z6<|zRg<|z8 (zc j6 Z Zh (by decide) Z Z)<|z8 (zi (c := .own _ _) Y3 Z ⟨_, .t2⟩ Z)<|z8 (yu Y8 jz Z ⟨_, .head⟩ Z)<|zn (rows := [[_, _, _, _]]) ps62_1 Z Z Z Z Z<|y5 (k := 4) jw type61 Z Z Z Z Z (fun _ => .t1) (by rw [grow_len (k := 4) (fun _ => rfl), qx, Nat.min_eq_left hm]) (by decide) Z (by show (_ + _) * 48 ≤ _; simp <;> omega) (by simp <;> omega)<|fun i67 => z8 (zc j6 Z Zh (by decide) Z Z)<|y1 (l := [_]) (new := [_, _, _, _, _, _, _]) Zh Z Z Z Z Z Z .t2 Z Z<|z6<|zRg<|zVzAd Z Z<|zVzMi Z<|z6 ?_
     exact ⟨(m + 1, i67), zR8, zR1, ⟨_, (.drop (.refl _)), by rw [← grow_push (qn hm2)]; rfl⟩, hm2, by dsimp only; omega⟩
    ·obtain rfl : m = f.blocks[k].insts.length := by omega
     rw [qr]
     refine y2<|y6 (qa (off := 1) (rows := f.blocks[k].phis.map encPhi) .t2 .t1 Z (by simp [encI, encVar, encPhi, encInst, encBlk]) (by decide) (by simp))<|y6 (qa (off := 2) (rows := f.blocks[k].insts.map encInst) .head .head Z (by simp [encI, encVar, encPhi, encInst, encBlk]) (by decide) (by simp))<|zRg<|z8 (zc j8 Z ju (by decide) Z Z)<|z8 (zi (c := .own _ _) Z5 Z ⟨_, .t3⟩ Z)<|z8 (yu Zq jm Z ⟨_, .head⟩ Z)<|zn (rows := [[_, _, _, _, _, _, _]]) ps24_1 Z Z Z Z Z<|y5 (k := 7) jh type69 Z Z Z Z Z (fun _ => .t2) (by rw [grow_len (k := 7) (fun _ => rfl), qx, Nat.min_eq_left hk]) (by decide) Z (by show (_ + _) * 96 ≤ _; simp <;> omega) (by simp <;> omega)<|fun i74 => z8 (zc j8 Z ju (by decide) Z Z)<|y1 (l := [_]) (new := [_, _, _]) ju Z Z Z Z Z Z .t3 Z Z<|z6<|zRg<|zVzAd Z Z<|zVzMi Z<|z6 ?_
     exact ⟨(k + 1, i74), zR4, zR1, ⟨_, (.drop (.drop (.refl _))), by rw [← grow_push (qn hk2)]; rfl⟩, hk2, by dsimp only; omega⟩
  ·obtain rfl : k = f.blocks.length := by omega
   rw [qr]
   refine y2<|zSr<|z8 (yu jp ji Z ⟨_, .t1⟩ Z)<|zt ji Z Z Z Z Z Z .t2 Z<|z6<|zf<|afin.c1 Z ⟨_, .t2⟩ jp ji Z ?_
   exact ⟨ib, rfl, ⟨_, .keep (.drop (.drop (.refl _))), rfl⟩, trivial⟩
end Go.Proofs.YtpojdepccecpgaaGreatDoor
namespace Go.Proofs.YtpojdepccecpgaaGreatDoor
open Go.Proofs.Tryz
open Go.Proofs Go.Lib Go.Shelf Go.RowKit
set_option maxRecDepth 20000
variable {E : World}
theorem copyF_spec (f : PFunc) (hf : small f) : AFun prog E 50 [.agg (encF f)] (.agg (encF f)) :=
 (copyB_own f hf).know fun I F w v y O' ⟨i, e, hl, _⟩ h1 h2 => by
  subst e
  obtain ⟨J, h3, h4, h5⟩ := Go.Proofs.YtpojdepccecpgaaGreatDoor.know (m := f.blocks.length) .head (by simp [encBlk]) (by decide) (by simp) (hl.sla h2)
  obtain ⟨vs, ev, v1, us1, e1, r1, v2, us2, e2, r2, v3, us3, e3, r3, r4⟩ := h1
  exact ⟨J, .agg (encF f), [], h3, ⟨vs, ev, v1, us1, e1, RepV.mono h3 _ _ r1, v2, us2, e2, RepV.mono h3 _ _ r2, v3, us3, e3, h5 _ r3, r4⟩, h4, rfl⟩
end Go.Proofs.YtpojdepccecpgaaGreatDoor
namespace Go.Proofs.YtpojdepccecpgaaGreatDoor
open Go.Proofs.Tryz
open Go.Proofs Go.Lib Go.Shelf Go.RowKit
set_option maxRecDepth 20000
variable {E : World}
def wV (l : List PVar) : Nat := (l.map fun v => v.name.size).sum
def wP (l : List PPhi) : Nat := (l.map fun p => p.args.length + p.from_.length).sum
def wX (l : List PInst) : Nat := (l.map fun x => x.args.length).sum
def wB (b : PBlock) : Nat := b.name.size + 10 * (b.phis.length + b.insts.length) + wP b.phis + wX b.insts
def wBs (l : List PBlock) : Nat := (l.map wB).sum
theorem wV_succ {l : List PVar} {k : Nat} (h : k < l.length) : wV (l.take (k + 1)) = wV (l.take k) + l[k].name.size := by
 unfold wV; rw [qn h, qw, List.sum_append]; simp only [List.map_cons, List.map_nil, List.sum_cons, List.sum_nil, Nat.add_zero]
theorem wP_succ {l : List PPhi} {k : Nat} (h : k < l.length) : wP (l.take (k + 1)) = wP (l.take k) + (l[k].args.length + l[k].from_.length) := by
 unfold wP; rw [qn h, qw, List.sum_append]; simp only [List.map_cons, List.map_nil, List.sum_cons, List.sum_nil, Nat.add_zero]
theorem wX_succ {l : List PInst} {k : Nat} (h : k < l.length) : wX (l.take (k + 1)) = wX (l.take k) + l[k].args.length := by
 unfold wX; rw [qn h, qw, List.sum_append]; simp only [List.map_cons, List.map_nil, List.sum_cons, List.sum_nil, Nat.add_zero]
theorem wBs_succ {l : List PBlock} {k : Nat} (h : k < l.length) : wBs (l.take (k + 1)) = wBs (l.take k) + wB l[k] := by
 unfold wBs; rw [qn h, qw, List.sum_append]; simp only [List.map_cons, List.map_nil, List.sum_cons, List.sum_nil, Nat.add_zero]
def littleB (b : PBlock) : Prop := b.name.size ≤ 400 ∧ b.phis.length ≤ 400 ∧ b.insts.length ≤ 400 ∧ (∀ p ∈ b.phis, p.args.length ≤ 400 ∧ p.from_.length ≤ 400) ∧ ∀ x ∈ b.insts, x.args.length ≤ 400
def little (f : PFunc) : Prop := f.vars.length ≤ 100 ∧ f.blocks.length ≤ 40 ∧ f.params.length ≤ 20 ∧ (∀ v ∈ f.vars, v.name.size ≤ 400) ∧ (∀ b ∈ f.blocks, littleB b) ∧ (f.blocks ≠ [] → wV f.vars + wBs f.blocks ≤ 4000)
theorem little.small {f : PFunc} (h : little f) : small f := by
 obtain ⟨h1, h2, h3, h4, h5, _⟩ := h
 refine ⟨by omega, by omega, by omega, fun v hv => by have := h4 v hv; omega, fun b hb => ?_⟩
 obtain ⟨g1, g2, g3, g4, g5⟩ := h5 b hb
 exact ⟨by omega, by omega, by omega, fun p hp => by have := g4 p hp; omega, fun x hx => by have := g5 x hx; omega⟩
def wL {α : Type} (l : List α) : Prop := l.length ≤ 9223372036854775807
def wPhi (p : PPhi) : Prop := wL p.args ∧ wL p.from_
def wBlk (b : PBlock) : Prop := wL b.phis ∧ wL b.insts ∧ (∀ p ∈ b.phis, wPhi p) ∧ (∀ x ∈ b.insts, wL x.args)
def wFunc (f : PFunc) : Prop := wL f.vars ∧ wL f.params ∧ wL f.blocks ∧ ∀ b ∈ f.blocks, wBlk b
theorem wL.lt {α : Type} {l : List α} (h : wL l) : l.length ≤ 9223372036854775807 := h
def few1 (f : PFunc) : Bool := decide ((100 : Int) < f.vars.length) || (decide ((40 : Int) < f.blocks.length) || decide ((20 : Int) < f.params.length))
def few2 (b : PBlock) : Bool := decide ((400 : Int) < b.name.size) || (decide ((400 : Int) < b.phis.length) || decide ((400 : Int) < b.insts.length))
end Go.Proofs.YtpojdepccecpgaaGreatDoor
namespace Go.Proofs.YtpojdepccecpgaaGreatDoor
open Go.Proofs.Tryz
open Go.Proofs Go.Lib Go.Shelf Go.RowKit
set_option maxRecDepth 20000
variable {E : World}
def bname (f : PFunc) (v : Int) : ByteArray := (f.blocks[v.toNat]?.map (·.name)).getD ⟨#[]⟩
theorem hasB_get {f : PFunc} {v : Int} (h : hasB f v = true) : ∃ (h : v.toNat < f.blocks.length), f.blocks[v.toNat]? = some f.blocks[v.toNat] ∧ 0 ≤ v ∧ bname f v = f.blocks[v.toNat].name := by
 have h2 : 0 ≤ v ∧ v < f.blocks.length := by simpa [hasB] using h
 have h3 : v.toNat < f.blocks.length := by omega
 exact ⟨h3, qm h3, h2.1, by unfold bname; rw [qm h3]; rfl⟩
def spc : ByteArray := ⟨#[32]⟩
def refWord (f : PFunc) (x : PInst) : ByteArray := if (kRow x.op).2.2 = ⟨#[]⟩ then (kRow x.op).1 else (vname f x.dst ++ ⟨#[32, 61, 32]⟩) ++ (kRow x.op).1
def refArgs (f : PFunc) (x : PInst) (k : Nat) : ByteArray := (x.args.take k).foldl (fun s a => (s ++ spc) ++ vname f a) (refWord f x)
def refLine (f : PFunc) (x : PInst) : ByteArray := if wordB x then (refArgs f x x.args.length ++ spc) ++ strL (itoa x.num) else refArgs f x x.args.length
theorem refArgs_succ (f : PFunc) (x : PInst) {k : Nat} (h : k < x.args.length) : refArgs f x (k + 1) = (refArgs f x k ++ spc) ++ vname f x.args[k] := by
 unfold refArgs; rw [qn h, List.foldl_append]; rfl
theorem app_size (a b : ByteArray) : (a ++ b).size = a.size + b.size := ByteArray.size_append
theorem refWord_size {f : PFunc} (hnm : ∀ v ∈ f.vars, v.name.size ≤ 1000) (x : PInst) : (refWord f x).size ≤ 1009 := by
 have := word_len x.op
 have h2 := vname_len hnm x.dst
 unfold refWord; split
 ·omega
 ·rw [app_size, app_size]; show _ + 3 + _ ≤ _; omega
theorem refArgs_size {f : PFunc} (hnm : ∀ v ∈ f.vars, v.name.size ≤ 1000) (x : PInst) : ∀ k, k ≤ x.args.length → (refArgs f x k).size ≤ 1009 + 1001 * k
 | 0, _ => by simpa [refArgs] using refWord_size hnm x
 | k + 1, h => by
  rw [refArgs_succ f x (by omega), app_size, app_size]
  have := refArgs_size hnm x k (by omega)
  have h2 := vname_len hnm x.args[k]
  show _ + 1 + _ ≤ _; omega
def termLine (f : PFunc) (t : PTerm) : ByteArray := if termOK f t then (if t.kind = 0 then (⟨#[106, 117, 109, 112, 32]⟩ : ByteArray) ++ bname f t.to0 else if t.kind = 1 then ((((⟨#[105, 102, 32]⟩ : ByteArray) ++ vname f t.var) ++ spc) ++ bname f t.to0 ++ spc) ++ bname f t.to1 else (⟨#[114, 101, 116, 32]⟩ : ByteArray) ++ vname f t.var) else ⟨#[]⟩
theorem termOK_0 {f : PFunc} {t : PTerm} (h : termOK f t = true) (hk : t.kind = 0) : hasB f t.to0 = true := by unfold termOK at h; rw [if_pos hk] at h; simp at h; exact h.1.1
theorem termOK_1 {f : PFunc} {t : PTerm} (h : termOK f t = true) (hk : t.kind = 1) : hasV f t.var = true ∧ hasB f t.to0 = true ∧ hasB f t.to1 = true := by unfold termOK at h; rw [if_neg (by omega), if_pos hk] at h; simp at h; exact ⟨h.1.1, h.1.2, h.2⟩
theorem termOK_2 {f : PFunc} {t : PTerm} (h : termOK f t = true) (hk : ¬ t.kind = 0) (hk1 : ¬ t.kind = 1) : hasV f t.var = true := by unfold termOK at h; rw [if_neg hk, if_neg hk1] at h; split at h; simp at h; exact h.1; cases h
theorem Term_spec (f : PFunc) (t : PTerm) (hf : small f) : AFun prog E 64 [.agg (encF f), .agg (encTerm t)] (.str (termLine f t)) := by
 obtain ⟨hf1, hf2, hf3, hf4, hf5⟩ := hf
 refine zl func64 Z (by decide) Z<|zSr<|y8 (cs := _) Z Z Z<|y8 (cs := _) Z Z Z<|z8 (y4 (v := .str _) Z)<|z6<|zb<|zSr<|zVGvloadWF jp ji Z Z<|zVGvloadWF Ye jx Z Z<|zg (term_spec _ _) Z<|zVGvnot Z<|z6<|zz Z (fun cok=>?_) (fun cok=>?_)
 ·have hok : termOK f t = false := by simpa using cok
  refine zSr<|z8 (y4 (v := .str _) Z)<|z6<|zf<|zj (x := .str _) Z ?_
  unfold termLine; rw [hok]; rfl
 ·have hok : termOK f t = true := by simpa using cok
  refine ze<|zb<|zSr<|zVzFF j7 Z Zk Z Z<|zVzLi Zr Z<|z6<|zh<|zSr<|zVGveqlI Z Z<|zVzAb Z<|z6<|zk Z (fun c0=>?_) (fun c0=>?_)
  ·obtain ⟨hlt, hg, hnn, hvn⟩ := hasB_get (termOK_0 hok c0)
   have hv1 := (hf5 _ (qq hlt)).1
   refine zSr<|zVzFF j8 Z ju Z Z<|zVzLf Z5 Z<|zVzFF j7 Z jy Z Z<|z8 (yp (j := 0) jl j5 Z Z Z (by decide) Z)<|zVzLi jd Z<|z8 (zIM t.to0.toNat jh jm Z Z (w3 hnn).symm hg)<|zVzFF j6 Z Z0 Z Z<|z8 (yr (c := .str _) Zc Z)<|z8 (Gv.addT Z Z (by show 5 + _ ≤ _; omega))<|z8 (y4 (v := .str _) Z)<|z6<|zf<|zj (x := .str _) Z ?_
   exact congrArg AV.str (by unfold termLine; rw [if_pos hok, if_pos c0, hvn])
  ·refine zSr<|zVGveqlI Z Z<|zVzAb Z<|z6<|zk Z (fun c1=>?_) (fun c1=>?_)
   ·obtain ⟨h1, h2, h3⟩ := termOK_1 hok c1
    obtain ⟨hlt, hg, hnn, hvn⟩ := has_get h1
    obtain ⟨hlt2, hg2, hnn2, hvn2⟩ := hasB_get h2
    obtain ⟨hlt3, hg3, hnn3, hvn3⟩ := hasB_get h3
    have hv1 := hf4 _ (qq hlt)
    have hv2 := (hf5 _ (qq hlt2)).1
    have hv3 := (hf5 _ (qq hlt3)).1
    refine zb<|zq (fun j => false) (by kernel_rfl) Z (zr (.rest _))<|zTk 0 Z (zFF j8 Z Zl Z Z)<|zTk 1 Z (zLf Zz Z)<|zTk 2 Z (zFF j7 Z j5 Z Z)<|zTk 3 Z (zLi jd Z)<|zTk 4 Z (zIM t.var.toNat jv Ze Z Z (w3 hnn).symm hg)<|zTk 5 Z (zFF Z1 Z Z0 Z Z)<|zTk 6 Z (yr (c := .str _) Zc Z)<|zTk 7 Z (Gv.addT Z Z (by (try simp only [app_size]); have e1 : (⟨#[105, 102, 32]⟩ : ByteArray).size = 3 := rfl; have e2 : (⟨#[32]⟩ : ByteArray).size = 1 := rfl; omega))<|zTk 8 Z (Gv.addT Z Z (by (try simp only [app_size]); have e1 : (⟨#[105, 102, 32]⟩ : ByteArray).size = 3 := rfl; have e2 : (⟨#[32]⟩ : ByteArray).size = 1 := rfl; omega))<|zTk 9 Z (zFF j8 Z ju Z Z)<|zTk 10 Z (zLf Z5 Z)<|zTk 11 Z (zFF j7 Z jy Z Z)<|zTk 12 Z (yp (j := 0) jl j5 Z Z Z (by decide) Z)<|zTk 13 Z (zLi jd Z)<|zTk 14 Z (zIM t.to0.toNat jh jm Z Z (w3 hnn2).symm hg2)<|zTk 15 Z (zFF j6 Z Z0 Z Z)<|zTk 16 Z (yr (c := .str _) Zc Z)<|zTk 17 Z (Gv.addT Z Z (by (try simp only [app_size]); have e1 : (⟨#[105, 102, 32]⟩ : ByteArray).size = 3 := rfl; have e2 : (⟨#[32]⟩ : ByteArray).size = 1 := rfl; omega))<|zTk 18 Z (Gv.addT Z Z (by (try simp only [app_size]); have e1 : (⟨#[105, 102, 32]⟩ : ByteArray).size = 3 := rfl; have e2 : (⟨#[32]⟩ : ByteArray).size = 1 := rfl; omega))<|zTk 19 Z (zFF j8 Z ju Z Z)<|zTk 20 Z (zLf Z5 Z)<|zTk 21 Z (zFF j7 Z jy Z Z)<|zTk 22 Z (yp (j := 1) jl j5 Z Z Z (by decide) Z)<|zTk 23 Z (zLi jd Z)<|zTk 24 Z (zIM t.to1.toNat jh jm Z Z (w3 hnn3).symm hg3)<|zTk 25 Z (zFF j6 Z Z0 Z Z)<|zTk 26 Z (yr (c := .str _) Zc Z)<|zTk 27 Z (Gv.addT Z Z (by (try simp only [app_size]); have e1 : (⟨#[105, 102, 32]⟩ : ByteArray).size = 3 := rfl; have e2 : (⟨#[32]⟩ : ByteArray).size = 1 := rfl; omega))<|zTk 28 Z (y4 (v := .str _) Z)<|zDn<|zf<|zj (x := .str _) Z ?_
    exact congrArg AV.str (by unfold termLine; rw [if_pos hok, if_neg c0, if_pos c1, hvn, hvn2, hvn3]; rfl)
   ·obtain ⟨hlt, hg, hnn, hvn⟩ := has_get (termOK_2 hok c0 c1)
    have hv1 := hf4 _ (qq hlt)
    refine ze<|zSr<|zVzFF j8 Z Zl Z Z<|zVzLf Zz Z<|zVzFF j7 Z j5 Z Z<|zVzLi jd Z<|z8 (zIM t.var.toNat jv Ze Z Z (w3 hnn).symm hg)<|zVzFF Z1 Z Z0 Z Z<|z8 (yr (c := .str _) Zc Z)<|z8 (Gv.addT Z Z (by show 4 + _ ≤ _; omega))<|z8 (y4 (v := .str _) Z)<|z6<|zf<|zj (x := .str _) Z ?_
    exact congrArg AV.str (by unfold termLine; rw [if_pos hok, if_neg c0, if_neg c1, hvn])
end Go.Proofs.YtpojdepccecpgaaGreatDoor
namespace Go.Proofs.YtpojdepccecpgaaGreatDoor
open Go.Proofs.Tryz
open Go.Proofs Go.Lib Go.Shelf Go.RowKit
set_option maxRecDepth 20000
variable {E : World}
theorem joinTail_app (sep a : List UInt8) (r : List (List UInt8)) : Lib.joinTail sep (r ++ [a]) = Lib.joinTail sep r ++ sep ++ a := by
 induction r with
 | nil => simp [Lib.joinTail]
 | cons x r ih =>
  have h3 : ∀ r, Lib.joinTail sep (x :: r) = sep ++ x ++ Lib.joinTail sep r := fun r => rfl
  rw [List.cons_append, h3, h3, ih]; simp
theorem joinS_app (w : ByteArray) (ws : List ByteArray) (a : ByteArray) : joinS ((w :: ws) ++ [a]) ⟨#[32]⟩ = (joinS (w :: ws) ⟨#[32]⟩ ++ spc) ++ a := by
 have hs : spc = strL [32] := rfl
 have ha : a = strL a.data.toList := by unfold strL; simp
 unfold joinS
 show strL _ = (strL _ ++ spc) ++ a
 rw [hs, ha, strL_app, strL_app]
 congr 1
 simp only [List.cons_append, List.map_cons, qw, List.map_nil, Lib.join_cons]
 rw [joinTail_app]
 simp [strL]
theorem joinS_one (w : ByteArray) : joinS [w] ⟨#[32]⟩ = w := by
 unfold joinS; simp [Lib.join_cons, Lib.joinTail]
theorem rows_27 : ∀ r ∈ kindT, r.1 ≠ ⟨#[]⟩ := by decide
theorem word_ne {op : Int} (h : 0 ≤ op ∧ op ≤ 26) : (kRow op).1 ≠ ⟨#[]⟩ := by
 have hm : kRow op ∈ kindT := by
  unfold kRow
  rw [if_pos h.1, qm (show _ < 27 by omega)]
  exact qq _
 exact rows_27 _ hm
theorem word_num : ∀ j : Nat, j < 27 → isNum (j : Int) = (decide ((kRow (j : Int)).1 = ⟨#[99, 111, 110, 115, 116]⟩) || decide ((kRow (j : Int)).1 = ⟨#[112, 105]⟩)) := by decide
theorem wordB_num {x : PInst} (h : 0 ≤ x.op ∧ x.op ≤ 26) : wordB x = isNum x.op := by
 have := word_num x.op.toNat (by omega)
 rw [w3 h.1] at this
 unfold wordB; exact this.symm
theorem takes_len (op : Int) : (takesL op).length = (kRow op).2.1.size := by unfold takesL; rw [qt]; exact Array.length_toList
theorem bytes_nil (b : ByteArray) : b.data.toList.isEmpty = decide (b = ⟨#[]⟩) := by
 obtain ⟨⟨l⟩⟩ := b
 cases l <;> simp
theorem makesB_eq (op : Int) : makesB op = !decide ((kRow op).2.2 = ⟨#[]⟩) := by unfold makesB; rw [bytes_nil]
theorem kRow_none {op : Int} (h : ¬ (0 ≤ op ∧ op ≤ 26)) : kRow op = (⟨#[]⟩, ⟨#[]⟩, ⟨#[]⟩) := kRow_out (by unfold isOp; simp; omega)
theorem instOK_iff (f : PFunc) (x : PInst) : instOK f x = true ↔ InstP f x := by
 by_cases h : 0 ≤ x.op ∧ x.op ≤ 26
 ·have hw := word_ne h
  have hn := wordB_num h
  unfold instOK inst1 inst2 InstP bad2
  rw [takes_len, makesB_eq, hn]
  by_cases h1 : x.args.length = (kRow x.op).2.1.size <;> by_cases h2 : (kRow x.op).2.2 = ⟨#[]⟩ <;> by_cases h3 : x.dst = -1 <;> by_cases h4 : x.num = 0 <;> by_cases h5 : x.args.all (hasV f) = true <;> simp_all [Int.ofNat_inj] <;> (try (unfold hasV; simp)) <;> (try grind)
 ·constructor
  ·intro h2
   have := kRow_none h
   unfold instOK inst1 at h2
   rw [this] at h2; simp at h2
  ·intro h2; exact absurd ⟨h2.1, h2.2.1⟩ h
theorem line_eq {f : PFunc} {x : PInst} (h : InstP f x) : instLine f x = refLine f x := by
 have hop : 0 ≤ x.op ∧ x.op ≤ 26 := ⟨h.1, h.2.1⟩
 have hok := (instOK_iff f x).2 h
 unfold instLine
 rw [if_pos hok]
 have hb := h.2.2.1
 have hd : (kRow x.op).2.2 = ⟨#[]⟩ ↔ x.dst = -1 := by
  unfold bad2 at hb
  simp at hb
  have := hb.2.1
  by_cases h1 : (kRow x.op).2.2 = ⟨#[]⟩ <;> by_cases h2 : x.dst = -1 <;> simp_all
 have hdv : x.dst ≠ -1 → 0 ≤ x.dst := by
  intro h1
  unfold bad2 at hb
  simp at hb
  have := hb.2.2.1 h1
  unfold hasV at this; simp at this; exact this.1
 have h1 : ∃ w ws, words1 f x ++ [(kRow x.op).1] = w :: ws ∧ joinS (w :: ws) ⟨#[32]⟩ = refWord f x := by
  unfold words1 refWord
  by_cases h1 : x.dst = -1
  ·rw [if_neg (by omega), if_pos (hd.2 h1)]; exact ⟨_, [], rfl, joinS_one _⟩
  ·rw [if_pos (hdv h1), if_neg (fun e => h1 (hd.1 e))]
   refine ⟨vname f x.dst, [⟨#[61]⟩, (kRow x.op).1], Z, ?_⟩
   have e1 := joinS_app (vname f x.dst) [⟨#[61]⟩] (kRow x.op).1
   have e2 := joinS_app (vname f x.dst) [] ⟨#[61]⟩
   simp only [List.cons_append, List.nil_append] at e1 e2
   rw [e1, e2, joinS_one]
   have e3 : spc = strL [32] := rfl
   have e4 : (⟨#[32, 61, 32]⟩ : ByteArray) = strL [32, 61, 32] := rfl
   have e5 : (⟨#[61]⟩ : ByteArray) = strL [61] := rfl
   have ha : vname f x.dst = strL (vname f x.dst).data.toList := by unfold strL; simp
   rw [e3, e4, e5, ha, strL_app, strL_app, strL_app, strL_app]; simp
 have h2 : ∀ k, k ≤ x.args.length → ∃ w ws, words2 f x k = w :: ws ∧ joinS (w :: ws) ⟨#[32]⟩ = refArgs f x k := by
  intro k
  induction k with
  | zero => intro _; obtain ⟨w, ws, e1, e2⟩ := h1; exact ⟨w, ws, by unfold words2; simpa using e1, by rw [e2]; rfl⟩
  | succ k ih =>
   intro hk
   obtain ⟨w, ws, e1, e2⟩ := ih (by omega)
   refine ⟨w, ws ++ [vname f x.args[k]], by rw [words2_succ f x hk, e1]; rfl, ?_⟩
   rw [← List.cons_append, joinS_app, e2, refArgs_succ f x hk]
 obtain ⟨w, ws, e1, e2⟩ := h2 x.args.length (Nat.le_refl _)
 unfold wordsOf refLine
 rw [e1, wordB_num hop]
 by_cases hn : isNum x.op = true
 ·rw [if_pos hn, if_pos hn, joinS_app, e2]; rfl
 ·rw [if_neg hn, if_neg hn, List.append_nil, e2]
def only (f : PFunc) (x : PInst) : PFunc := { f with blocks := [⟨⟨#[111, 110, 108, 121]⟩, [], [x], ⟨0, 0, 0, 0⟩⟩] }
def ended (f : PFunc) (b0 : PBlock) (bs : List PBlock) (t : PTerm) : PFunc := { f with blocks := { b0 with term := t } :: bs }
end Go.Proofs.YtpojdepccecpgaaGreatDoor
namespace Go.Proofs.YtpojdepccecpgaaGreatDoor
open Go.Proofs.Tryz
open Go.Proofs Go.Lib Go.Shelf Go.RowKit
set_option maxRecDepth 20000
variable {E : World}
def letterC (c : Int) : Bool := isLetterU c && !decide (c = 65533)
def digitC (c : Int) : Bool := decide (48 ≤ c) && decide (c ≤ 57)
def innerC (c : Int) : Bool := letterC c || (digitC c || (decide (c = 46) || decide (c = 95)))
theorem zletter_spec (c : Int) (h1 : -2147483648 ≤ c) (h2 : c ≤ 2147483647) (hL : Letters E) : AFun prog E 188 [.int .i32 c] (.bool (letterC c)) := by
 refine zl func188 Z (by decide) Z<|zSr<|zVzAb Z<|z6<|zSr<|zVzMi Z<|zg (letter_spec c h1 h2 hL) Z<|zVzMb Z<|zo (s := 5) Z (fun c1=>?_) (fun c1=>?_)
 ·refine za Z Z c1<|zVzMi Z<|za Z Z c1<|z8 (yl Z Z)<|zVzPt Z c1 Z<|zVzAb Z<|z6<|zf<|zj (x := .bool _) Z ?_
  exact jb (by simp_all [letterC])
 ·refine z7 Z Z c1<|z7 Z Z c1<|zVzPf Z c1 Z<|zVzAb Z<|z6<|zf<|zj (x := .bool _) Z ?_
  exact jb (by simp_all [letterC])
theorem zdigit_spec (c : Int) : AFun prog E 195 [.int .i32 c] (.bool (digitC c)) := by
 refine zl func195 Z (by decide) Z<|zSr<|zVzAb Z<|z6<|zSr<|zVzMi Z<|z8 (qc Z Z)<|zVzMb Z<|zo (s := 5) Z (fun c2=>?_) (fun c2=>?_)
 ·refine za Z Z c2<|zVzMi Z<|za Z Z c2<|z8 (Gv.leq Z Z)<|zVzPt Z c2 Z<|zVzAb Z<|z6<|zf<|zj (x := .bool _) Z ?_
  exact jb (by simp_all [digitC] <;> (intros; omega))
 ·refine z7 Z Z c2<|z7 Z Z c2<|zVzPf Z c2 Z<|zVzAb Z<|z6<|zf<|zj (x := .bool _) Z ?_
  exact jb (by simp_all [digitC] <;> (intros; omega))
theorem zinner_spec (c : Int) (h1 : -2147483648 ≤ c) (h2 : c ≤ 2147483647) (hL : Letters E) : AFun prog E 189 [.int .i32 c] (.bool (innerC c)) := by
 refine zl func189 Z (by decide) Z<|zSr<|zVzAb Z<|z6<|zSr<|zVzMi Z<|zg (zletter_spec c h1 h2 hL) Z<|zVzMb Z<|zo (s := 5) Z (fun c3=>?_) (fun c3=>?_)
 ·refine z7 Z Z c3<|z7 Z Z c3<|zVzPt Z c3 Z<|zVzMb Z<|z7 Z Z Z<|z7 Z Z Z<|zVzPt Z Z Z<|zVzMb Z<|z7 Z Z Z<|z7 Z Z Z<|zVzPt Z Z Z<|zVzAb Z<|z6<|zf<|zj (x := .bool _) Z ?_
  exact jb (by simp_all [innerC])
 ·refine za Z Z c3<|zVzMi Z<|za Z Z c3<|zg (zdigit_spec _) Z<|zVzPf Z c3 Z<|zVzMb Z<|zo (s := 9) Z (fun c4=>?_) (fun c4=>?_)
  ·refine z7 Z Z c4<|z7 Z Z c4<|zVzPt Z c4 Z<|zVzMb Z<|z7 Z Z Z<|z7 Z Z Z<|zVzPt Z Z Z<|zVzAb Z<|z6<|zf<|zj (x := .bool _) Z ?_
   exact jb (by simp_all [innerC])
  ·refine za Z Z c4<|zVzMi Z<|za Z Z c4<|zVGveqlI Z Z<|zVzPf Z c4 Z<|zVzMb Z<|zo (s := 13) Z (fun c5=>?_) (fun c5=>?_)
   ·refine z7 Z Z c5<|z7 Z Z c5<|zVzPt Z c5 Z<|zVzAb Z<|z6<|zf<|zj (x := .bool _) Z ?_
    exact jb (by simp_all [innerC])
   ·refine za Z Z c5<|zVzMi Z<|za Z Z c5<|zVGveqlI Z Z<|zVzPf Z c5 Z<|zVzAb Z<|z6<|zf<|zj (x := .bool _) Z ?_
    exact jb (by simp_all [innerC])
def runesFrom (s : ByteArray) (p : Nat) : List Int := if h : p < s.size then ((Utf8.decode s p).1 : Int) :: runesFrom s (p + (Utf8.decode s p).2) else []
termination_by s.size - p
decreasing_by have := (decode_ok s p).1; omega
theorem runesFrom_lt {s : ByteArray} {p : Nat} (h : p < s.size) : runesFrom s p = ((Utf8.decode s p).1 : Int) :: runesFrom s (p + (Utf8.decode s p).2) := by rw [runesFrom, dif_pos h]
theorem runesFrom_ge {s : ByteArray} {p : Nat} (h : ¬ p < s.size) : runesFrom s p = [] := by rw [runesFrom, dif_neg h]
theorem runesFrom_len (s : ByteArray) : ∀ k p, s.size - p ≤ k → (runesFrom s p).length ≤ k := by
 intro k
 induction k with
 | zero => intro p h; rw [runesFrom_ge (by omega)]; simp
 | succ k ih =>
  intro p h
  by_cases hp : p < s.size
  ·rw [runesFrom_lt hp]
   have := (decode_ok s p).1
   have := ih (p + (Utf8.decode s p).2) (by omega)
   simp; omega
  ·rw [runesFrom_ge hp]; simp
theorem runes_spec (s : ByteArray) (hs : s.size ≤ 140737488355328) : AFun prog E 190 [.str s] (.int .i64 (runesFrom s 0).length) := by
 have h0 := runesFrom_len s s.size 0 (by omega)
 refine zl func190 Z (by decide) Z<|zSr<|zVzAi Z<|z6<|zSr<|zVzAi Z<|z6<|zb<|zSr<|z8 (yf (v := .str _) Z)<|AOps.rangeT Z2 Z<|fun i5 => z6<|zh<|y3 (γ := Nat × Nat) [5] (fun g => [(3, .int .i64 g.2)]) (fun g => [(i5, .iter s g.1)]) (fun g => g.2 + (runesFrom s g.1).length = (runesFrom s 0).length) (fun g => s.size - g.1) (0, 0) zR1 zLe (by simp) ?_
 rintro ⟨p, n⟩ hp
 try dsimp only at *
 by_cases hlt : p < s.size
 ·have hd := (decode_ok s p).1
  rw [runesFrom_lt hlt] at hp
  simp only [List.length_cons] at hp
  refine zSr<|AOps.nextT Z .head hlt<|z8 (zXb Z Z)<|z6<|zb<|yq Z Z<|ze<|zh<|zRg<|zVzMi Z<|zVzAd Z Z<|zVzAi Z<|z6 ?_
  exact ⟨(p + (Utf8.decode s p).2, n + 1), zR1, zR1, zLe, by dsimp only; omega, by dsimp only; omega⟩
 ·rw [runesFrom_ge hlt] at hp
  simp only [List.length_nil] at hp
  refine zSr<|AOps.nextTover Z .head hlt<|z8 (zXb Z Z)<|z6<|zb<|ym Z Z<|y2<|zSr<|zVzMi Z<|zVzAi Z<|z6<|zf<|zj (x := .int _ _) Z ?_
  exact congrArg (AV.int .i64) (by omega)
def nmGo (s : ByteArray) (p : Nat) : Bool := if h : p < s.size then (if (decide (p = 0) && !letterC ((Utf8.decode s p).1 : Int)) || !innerC ((Utf8.decode s p).1 : Int) then false else nmGo s (p + (Utf8.decode s p).2)) else (decide (¬ s = ⟨#[]⟩) && decide (((runesFrom s 0).length : Int) ≤ 16))
termination_by s.size - p
decreasing_by have := (decode_ok s p).1; omega
def scanName (s : ByteArray) : Bool := nmGo s 0
theorem zname_spec (s : ByteArray) (hs : s.size ≤ 140737488355328) (hL : Letters E) : AFun prog E 170 [.str s] (.bool (scanName s)) := by
 refine zl func170 Z (by decide) Z<|zSr<|zVzAb Z<|z6<|zb<|zSr<|z8 (yf (v := .str _) Z)<|AOps.rangeT Z2 Z<|fun i6 => z6<|zh<|y3 (γ := Nat) [0, 6] (fun p => []) (fun p => [(i6, .iter s p)]) (fun p => nmGo s p = scanName s) (fun p => s.size - p) 0 trivial zLe (Z) ?_
 rintro p hp
 by_cases hlt : p < s.size
 ·obtain ⟨hd1, hd2⟩ := decode_ok s p
  have hstep := hp
  rw [nmGo, dif_pos hlt] at hstep
  refine zSr<|AOps.nextT Z .head hlt<|z8 (zXb Z Z)<|z6<|zb<|yq Z Z<|ze<|zh<|zSr<|z8 (zXi Z Z)<|z8 (zXi Z Z)<|zVzAi Z<|zVzAi Z<|z6<|zSr<|zVzMi Z<|zVGveqlI Z Z<|zVzMb Z<|zo (s := 13) Z (fun c6=>?_) (fun c6=>?_)
  ·refine za Z Z c6<|zVzMi Z<|za Z Z c6<|zg (zletter_spec _ (by omega) (by omega) hL) Z<|za Z Z c6<|zVGvnot Z<|zVzPt Z c6 Z<|zVzMb Z<|zo (s := 18) Z (fun c7=>?_) (fun c7=>?_)
   ·refine z7 Z Z c7<|z7 Z Z c7<|z7 Z Z c7<|zVzPt Z c7 Z<|z6<|yq Z Z<|zSr<|zVzAb Z<|z6<|zf<|zj (x := .bool _) Z ?_
    rw [if_pos (by simp_all <;> omega)] at hstep; exact jb hstep
   ·refine za Z Z c7<|zVzMi Z<|za Z Z c7<|zg (zinner_spec _ (by omega) (by omega) hL) Z<|za Z Z c7<|zVGvnot Z<|zVzPf Z c7 Z<|z6<|zz Z (fun c8=>?_) (fun c8=>?_)
    ·refine zSr<|zVzAb Z<|z6<|zf<|zj (x := .bool _) Z ?_
     rw [if_pos (by simp_all <;> omega)] at hstep; exact jb hstep
    ·refine ze ?_
     exact ⟨p + (Utf8.decode s p).2, zR2, trivial, zLe, by rw [if_neg (by simp_all <;> omega)] at hstep; exact hstep, by omega⟩
  ·refine z7 Z Z c6<|z7 Z Z c6<|z7 Z Z c6<|zVzPf Z c6 Z<|zVzMb Z<|za Z Z Z<|zVzMi Z<|za Z Z Z<|zg (zinner_spec _ (by omega) (by omega) hL) Z<|za Z Z Z<|zVGvnot Z<|zVzPf Z Z Z<|z6<|zz Z (fun c9=>?_) (fun c9=>?_)
   ·refine zSr<|zVzAb Z<|z6<|zf<|zj (x := .bool _) Z ?_
    rw [if_pos (by simp_all <;> omega)] at hstep; exact jb hstep
   ·refine ze ?_
    exact ⟨p + (Utf8.decode s p).2, zR2, trivial, zLe, by rw [if_neg (by simp_all <;> omega)] at hstep; exact hstep, by omega⟩
 ·rw [nmGo, dif_neg hlt] at hp
  refine zSr<|AOps.nextTover Z .head hlt<|z8 (zXb Z Z)<|z6<|zb<|ym Z Z<|y2<|zSr<|z8 (yf (v := .str _) Z)<|z8 (Gv.neqT Z Z)<|zVzMb Z<|zo (s := 25) Z (fun c10=>?_) (fun c10=>?_)
  ·refine za Z Z c10<|z8 (yf (v := .str _) Z)<|za Z Z c10<|zg (runes_spec _ (by assumption)) Z<|za Z Z c10<|z8 (Gv.leq Z Z)<|zVzPt Z c10 Z<|zVzAb Z<|z6<|zf<|zj (x := .bool _) Z ?_
   rw [← hp]; exact jb (by simp_all <;> (try omega))
  ·refine z7 Z Z c10<|z7 Z Z c10<|z7 Z Z c10<|zVzPf Z c10 Z<|zVzAb Z<|z6<|zf<|zj (x := .bool _) Z ?_
   rw [← hp]; exact jb (by simp_all <;> (try omega))
end Go.Proofs.YtpojdepccecpgaaGreatDoor
namespace Go.Proofs.YtpojdepccecpgaaGreatDoor
open Go.Proofs.Tryz
open Go.Proofs Go.Lib Go.Shelf Go.RowKit
set_option maxRecDepth 20000
variable {E : World}
def tyWord (t : Int) : ByteArray := if t = 0 then ⟨#[105, 110, 116]⟩ else if t = 1 then ⟨#[98, 111, 111, 108]⟩ else if t = 2 then ⟨#[97, 114, 114]⟩ else ⟨#[]⟩
theorem strL_of (s : ByteArray) : strL s.data.toList = s := by unfold strL; simp
def nameR : List Int → Bool
 | [] => false
 | c :: rs => letterC c && (rs.all innerC && decide (rs.length + 1 ≤ 16))
theorem letter_inner {c : Int} (h : letterC c = true) : innerC c = true := by unfold innerC; rw [h]; rfl
theorem nmGo_pos (s : ByteArray) : ∀ (n p : Nat), s.size - p ≤ n → 0 < p → p ≤ s.size → nmGo s p = ((runesFrom s p).all innerC && decide ((runesFrom s 0).length ≤ 16)) := by
 intro n
 induction n with
 | zero =>
  intro p h hp hps
  have hne : ¬ s = ⟨#[]⟩ := fun e => by subst e; have : p ≤ 0 := hps; omega
  rw [nmGo, dif_neg (by omega), runesFrom_ge (p := p) (by omega)]
  simp [hne]; omega
 | succ n ih =>
  intro p h hp hps
  by_cases hlt : p < s.size
  ·have hd := (decode_ok s p).1
   have hw : p + (Utf8.decode s p).2 ≤ s.size := by
    have := decodeL_le (s.data.toList.drop p) (by intro e; have := congrArg List.length e; rw [List.length_drop] at this; have h2 : s.data.toList.length = s.size := Array.length_toList; simp only [List.length_nil] at this; omega)
    rw [decodeL_drop, List.length_drop] at this
    have h2 : s.data.toList.length = s.size := Array.length_toList
    omega
   rw [nmGo, dif_pos hlt, runesFrom_lt hlt, List.all_cons]
   have hp0 : decide (p = 0) = false := qz (by omega)
   rw [hp0, Bool.false_and, Bool.false_or]
   cases hi : innerC ((Utf8.decode s p).1 : Int) with
   | false => simp
   | true => rw [if_neg (by simp), ih _ (by omega) (by omega) hw]; simp
  ·have hne : ¬ s = ⟨#[]⟩ := fun e => by subst e; have : p ≤ 0 := hps; omega
   rw [nmGo, dif_neg hlt, runesFrom_ge (p := p) hlt]
   simp [hne]; omega
theorem step_le {s : ByteArray} {p : Nat} (hlt : p < s.size) : p + (Utf8.decode s p).2 ≤ s.size := by
 have h2 : s.data.toList.length = s.size := Array.length_toList
 have := decodeL_le (s.data.toList.drop p) (by intro e; have := congrArg List.length e; rw [List.length_drop] at this; simp only [List.length_nil] at this; omega)
 rw [decodeL_drop, List.length_drop] at this
 omega
theorem scanName_R (s : ByteArray) : scanName s = nameR (runesFrom s 0) := by
 unfold scanName
 by_cases hlt : 0 < s.size
 ·have hd := (decode_ok s 0).1
  have hw := step_le hlt
  have hr := runesFrom_lt hlt
  have hl := congrArg List.length hr
  rw [List.length_cons] at hl
  rw [nmGo, dif_pos hlt]
  have h2 : nameR (runesFrom s 0) = (letterC ((Utf8.decode s 0).1 : Int) && ((runesFrom s (0 + (Utf8.decode s 0).2)).all innerC && decide ((runesFrom s (0 + (Utf8.decode s 0).2)).length + 1 ≤ 16))) := by rw [hr]; rfl
  rw [h2]
  cases hc : letterC ((Utf8.decode s 0).1 : Int) with
  | false => simp
  | true =>
   rw [letter_inner hc, if_neg (by simp), nmGo_pos s _ _ (Nat.le_refl _) (by omega) hw, hl]; rfl
 ·rw [nmGo, dif_neg hlt, runesFrom_ge hlt]
  have : s = ⟨#[]⟩ := by
   have h2 : s.data.toList.length = s.size := Array.length_toList
   have h3 : s.data.toList = [] := List.eq_nil_of_length_eq_zero (by omega)
   rw [← strL_of s, h3]; rfl
  simp [this, nameR]
theorem cnt_end (k : Nat) : (decide ((1 : Int) ≤ ((k + 1 : Nat) : Int)) && decide (((k + 1 : Nat) : Int) ≤ 16)) = (([] : List Int).all innerC && decide (k + 1 + ([] : List Int).length ≤ 16)) := by
 rw [qy (by omega), Bool.true_and]
 show _ = (true && _)
 rw [Bool.true_and, decide_eq_decide]
 show ((k + 1 : Nat) : Int) ≤ 16 ↔ k + 1 + 0 ≤ 16
 omega
theorem nameFrom_pos (s : ByteArray) : ∀ (n p k : Nat), s.size - p ≤ n → nameFrom s p (k + 1) = ((runesFrom s p).all innerC && decide (k + 1 + (runesFrom s p).length ≤ 16)) := by
 intro n
 induction n with
 | zero =>
  intro p k h
  rw [nameFrom, dif_neg (by omega), runesFrom_ge (by omega)]
  exact cnt_end k
 | succ n ih =>
  intro p k h
  by_cases hlt : p < s.size
  ·have hd := (decode_ok s p).1
   rw [nameFrom, dif_pos hlt, runesFrom_lt hlt, List.all_cons]
   have ho : okRune ((Utf8.decode s p).1 : Int) (k + 1) = innerC ((Utf8.decode s p).1 : Int) := by
    unfold okRune innerC letterC digitC
    have : decide (((k + 1 : Nat) : Int) = 0) = false := qz (by omega)
    rw [this]; simp [Bool.or_assoc]
   rw [ho]
   cases hi : innerC ((Utf8.decode s p).1 : Int) with
   | false => simp
   | true => rw [if_pos rfl, ih _ _ (by omega), Bool.true_and, List.length_cons]; congr 2; simp; omega
  ·rw [nameFrom, dif_neg hlt, runesFrom_ge hlt]
   exact cnt_end k
theorem nameB_R (s : ByteArray) : nameB s = nameR (runesFrom s 0) := by
 unfold nameB
 by_cases hlt : 0 < s.size
 ·rw [nameFrom, dif_pos hlt, runesFrom_lt hlt]
  have ho : okRune ((Utf8.decode s 0).1 : Int) 0 = letterC ((Utf8.decode s 0).1 : Int) := by unfold okRune letterC; simp
  rw [ho]
  show _ = (letterC ((Utf8.decode s 0).1 : Int) && _)
  cases hc : letterC ((Utf8.decode s 0).1 : Int) with
  | false => simp
  | true => rw [if_pos rfl, nameFrom_pos s _ _ _ (Nat.le_refl _), Bool.true_and]; congr 2; simp; omega
 ·rw [nameFrom, dif_neg hlt, runesFrom_ge hlt]; rfl
theorem name_eq (s : ByteArray) : nameB s = scanName s := by rw [nameB_R, scanName_R]
structure InstF (f : PFunc) (x : PInst) : Prop where
 op : 0 ≤ x.op ∧ x.op ≤ 26
 len : x.args.length = (takesL x.op).length
 dst : (makesB x.op = false ∧ x.dst = -1) ∨ (makesB x.op = true ∧ x.dst ≠ -1 ∧ hasV f x.dst = true)
 num : isNum x.op = false → x.num = 0
 args : ∀ a ∈ x.args, hasV f a = true
theorem instP_F {f : PFunc} {x : PInst} (h : InstP f x) : InstF f x := by
 obtain ⟨h1, h2, h3, h4⟩ := h
 have hw := wordB_num ⟨h1, h2⟩
 unfold bad2 at h3
 simp only [Bool.or_eq_false_iff, Bool.not_eq_false', w4, Bool.and_eq_false_iff, beq_iff_eq] at h3
 obtain ⟨g1, g2, g3, g4⟩ := h3
 refine ⟨⟨h1, h2⟩, by rw [takes_len]; omega, ?_, fun hn=>?_, List.all_eq_true.1 h4⟩
 ·rw [makesB_eq]
  by_cases hd : x.dst = -1
  ·left
   rw [qy hd] at g2
   exact ⟨by rw [g2]; rfl, hd⟩
  ·right
   rw [qz hd] at g2
   refine ⟨by rw [g2]; rfl, hd, ?_⟩
   rcases g3 with g | g
   ·exact absurd g hd
   ·exact g
 ·rcases g4 with g | g
  ·exact g
  ·rw [hw, hn] at g; cases g
theorem tyWord_spec (t : Int) : AFun prog E 100 [.int .i64 t] (.str (tyWord t)) := by
 refine zl func100 Z (by decide) Z<|zSr<|z8 (y4 (v := .str _) Z)<|z6<|zb<|zSr<|zVzMi Z<|z6<|zh<|zSr<|zVGveqlI Z Z<|zVzAb Z<|z6<|zz Z (fun c1=>?_) (fun c1=>?_)
 ·refine zSr<|z8 (y4 (v := .str _) Z)<|z6<|zf<|zj (x := .str _) Z ?_
  exact congrArg AV.str (by simp_all [tyWord])
 ·refine zSr<|zVGveqlI Z Z<|zVzAb Z<|z6<|zz Z (fun c2=>?_) (fun c2=>?_)
  ·refine zSr<|z8 (y4 (v := .str _) Z)<|z6<|zf<|zj (x := .str _) Z ?_
   exact congrArg AV.str (by simp_all [tyWord])
  ·refine zSr<|zVGveqlI Z Z<|zVzAb Z<|z6<|zz Z (fun c3=>?_) (fun c3=>?_)
   ·refine zSr<|z8 (y4 (v := .str _) Z)<|z6<|zf<|zj (x := .str _) Z ?_
    exact congrArg AV.str (by simp_all [tyWord])
   ·refine ze<|zSr<|z8 (y4 (v := .str _) Z)<|z6<|zf<|zj (x := .str _) Z ?_
    exact congrArg AV.str (by simp_all [tyWord])
end Go.Proofs.YtpojdepccecpgaaGreatDoor
namespace Go.Proofs.YtpojdepccecpgaaGreatDoor
open Go.Proofs.Tryz
open Go.Proofs Go.Lib Go.Shelf Go.RowKit
set_option maxRecDepth 20000
variable {E : World}
def inB (s : ByteArray) (l : List ByteArray) : Bool := l.any fun t => decide (t = s)
theorem inB_iff {s : ByteArray} {l : List ByteArray} : inB s l = true ↔ s ∈ l := by
 unfold inB; rw [List.any_eq_true]
 constructor
 ·rintro ⟨x, hx, h⟩; have h : x = s := by simpa using h
  exact h ▸ hx
 ·intro h; exact ⟨s, h, by simp⟩
theorem inB_snoc {s t : ByteArray} {l : List ByteArray} : inB s (l ++ [t]) = (inB s l || decide (t = s)) := by unfold inB; rw [List.any_append]; simp
def UnlP (l : List ByteArray) : Prop := ∀ i (h : i < l.length), scanName l[i] = true ∧ inB l[i] (l.take i) = false
instance (l : List ByteArray) : Decidable (UnlP l) := by unfold UnlP; infer_instance
theorem unl_new {t : ByteArray} {l : List ByteArray} {mt : Int} (ht : mt = if inB t l = true then 1 else 0) (hc : decide (0 < mt) = false) : inB t l = false := by
 have hc := of_decide_eq_false hc
 cases h : inB t l with
 | true => rw [h] at ht; simp at ht; omega
 | false => rfl
theorem unl_step {s t : ByteArray} {l : List ByteArray} {m : Option Int} {mt : Int} (hs : m.getD 0 = if inB s l = true then 1 else 0) (ht : mt = if inB t l = true then 1 else 0) (hc : decide (0 < mt) = false) :
  (if s = t then some (mt + 1) else m).getD 0 = if (inB s l || decide (t = s)) = true then 1 else 0 := by
 have h := unl_new ht hc
 rw [h] at ht
 have ht : mt = 0 := by simpa using ht
 by_cases e : s = t
 ·subst e; simp [ht]
 ·rw [if_neg e, hs]
  have e2 : ¬ t = s := fun h => e h.symm
  simp [e2]
theorem unl_upto {l : List ByteArray} {k : Nat} (hn : ∀ i (h : i < l.length), i < k → scanName l[i] = true ∧ inB l[i] (l.take i) = false) (hk : k < l.length) (h1 : scanName l[k] = true) (h2 : inB l[k] (l.take k) = false) :
  ∀ i (h : i < l.length), i < k + 1 → scanName l[i] = true ∧ inB l[i] (l.take i) = false := fun i h hi => by
 by_cases e : i = k
 ·subst e; exact ⟨h1, h2⟩
 ·exact hn i h (by omega)
theorem unlike_spec (l : List ByteArray) (hl : l.length ≤ 100000000) (hs : ∀ s ∈ l, s.size ≤ 140737488355328) (hL : Letters E) : AFun prog E 129 [.fro 1 (l.map encS)] (.bool (decide (UnlP l))) := by
 refine zl func129 Z (by decide) Z<|zSr<|zVzAb Z<|z6<|zSr<|AOps.makeMap<|fun b6 => z8 (y4 (v := mref _) Z)<|z6<|zb<|zSr<|zVzMf Z<|zVGvlenM Zf Z<|zVzMi Z<|z6<|zh<|y3 (γ := Nat × List (ByteArray × Int)) [3, 7, 8] (fun g => [(9, .int .i64 g.1)]) (fun g => [(0, mapO b6 g.2)]) (fun g => g.1 ≤ l.length ∧ (∀ i (h : i < l.length), i < g.1 → scanName l[i] = true ∧ inB l[i] (l.take i) = false) ∧ ∀ s, (mget s g.2).getD 0 = if inB s (l.take g.1) = true then 1 else 0) (fun g => l.length - g.1) (0, []) zR1 zLe (⟨qp _, fun i h h2 => absurd h2 (Nat.not_lt_zero _), fun s => Z⟩) ?_
 rintro ⟨k, es⟩ ⟨hk, hn, hm⟩
 try dsimp only at *
 refine zSr<|zVGvlss Z Z<|z6<|zb<|zk Z (fun ck=>?_) (fun ck=>?_)
 ·have hk2 : k < l.length := by omega
  have hmk := hm l[k]
  have hz := hs _ (qq hk2)
  refine ze<|zb<|zh<|zSr<|z8 (zIM k Zf Z0 Z Z Z (qm hk2))<|z8 (yr (c := .str _) Zc Z)<|z8 (y4 (v := .str _) Z)<|z6<|zb<|zSr<|z8 (yf (v := .str _) Z)<|zg (zname_spec _ hz hL) Z<|zVGvnot Z<|zVzMb Z<|zo (s := 16) Z (fun c1=>?_) (fun c1=>?_)
  ·refine z7 Z Z c1<|z7 Z Z c1<|z7 Z Z c1<|z7 Z Z c1<|zVzPt Z c1 Z<|z6<|yq Z Z<|zSr<|zVzAb Z<|z6<|zf<|zj (x := .bool _) Z ?_
   exact jb (qz fun h => by have h := h k hk2; simp_all).symm
  ·refine za Z Z c1<|z8 (yf (v := mref _) Z)<|za Z Z c1<|z8 (yf (v := .str _) Z)<|za Z Z c1<|z8 (Gv.lookup1S underlying219 Z2 Zw Z Z ⟨_, .head⟩)<|za Z Z c1<|z8 (yy Z Z)<|zVzPf Z c1 Z<|z6<|zz Z (fun c2=>?_) (fun c2=>?_)
   ·refine zSr<|zVzAb Z<|z6<|zf<|zj (x := .bool _) Z ?_
    exact jb (qz fun h => by have h := h k hk2; simp_all).symm
   ·refine ze<|zRg<|z8 (yf (v := mref _) Z)<|z8 (yf (v := .str _) Z)<|z8 (Gv.lookup1S underlying219 Z2 Zw Z Z ⟨_, .head⟩)<|z8 (Gv.add Z Z (by first | (unfold I64; omega) | (unfold I64; rw [hmk]; split <;> omega)))<|AOps.mapSet underlying219 Z2 Z Z Z .head<|z6<|zRg<|z8 (Gv.add Z Z (by first | (unfold I64; omega) | (unfold I64; rw [hmk]; split <;> omega)))<|zVzMi Z<|z6 ?_
    exact ⟨(k + 1, mset l[k] ((mget l[k] es).getD 0 + 1) es), zR3, zR1, zLe, ⟨hk2, unl_upto hn hk2 (by simpa using c1) (unl_new hmk (by assumption)), fun s => by dsimp only; rw [mget_set, qn hk2, inB_snoc]; exact unl_step (hm s) hmk (by assumption)⟩, by dsimp only; omega⟩
 ·have hkn : k = l.length := by omega
  refine y2<|zSr<|zVzAb Z<|z6<|zf<|zj (x := .bool _) Z ?_
  exact jb (qy fun i h => hn i h (by omega)).symm
theorem map_take {α : Type} {g : α → ByteArray} {l : List α} {k : Nat} (h : k < l.length) : (l.map g).take (k + 1) = (l.map g).take k ++ [g l[k]] := by
 rw [qn (by simpa using h)]; simp
def VNames (f : PFunc) : List ByteArray := f.vars.map PVar.name
def BNames (f : PFunc) : List ByteArray := f.blocks.map PBlock.name
@[simp] theorem vn_len (f : PFunc) : (VNames f).length = f.vars.length := by unfold VNames; simp
@[simp] theorem bn_len (f : PFunc) : (BNames f).length = f.blocks.length := by unfold BNames; simp
theorem vn_take {f : PFunc} {k : Nat} (h : k < f.vars.length) : (VNames f).take (k + 1) = (VNames f).take k ++ [f.vars[k].name] := map_take h
theorem bn_take {f : PFunc} {k : Nat} (h : k < f.blocks.length) : (BNames f).take (k + 1) = (BNames f).take k ++ [f.blocks[k].name] := map_take h
def ParP (f : PFunc) : Prop := ∀ i (h : i < f.params.length), f.params[i] = (i : Int)
instance (f : PFunc) : Decidable (ParP f) := by unfold ParP; infer_instance
def TysP (f : PFunc) : Prop := ∀ i (h : i < f.vars.length), ¬ tyWord f.vars[i].ty = ⟨#[]⟩
instance (f : PFunc) : Decidable (TysP f) := by unfold TysP; infer_instance
def LensP (f : PFunc) : Prop := f.vars.length ≤ 512 ∧ f.params.length ≤ 8 ∧ f.params.length ≤ f.vars.length ∧ 1 ≤ f.blocks.length ∧ f.blocks.length ≤ 64
instance (f : PFunc) : Decidable (LensP f) := by unfold LensP; infer_instance
def NamesP (f : PFunc) : Prop := TysP f ∧ ParP f ∧ LensP f ∧ UnlP (VNames f) ∧ UnlP (BNames f)
instance (f : PFunc) : Decidable (NamesP f) := by unfold NamesP; infer_instance
theorem pnames_spec (f : PFunc) (h1 : f.vars.length ≤ 100000000) (h2 : f.blocks.length ≤ 100000000) (hp : f.params.length ≤ 100000000) (hn : okNames f) (hL : Letters E) : AFun prog E 90 [.agg (encF f)] (.bool (decide (NamesP f))) := by
 have hnv : (VNames f).length = f.vars.length := by unfold VNames; simp
 have hnb : (BNames f).length = f.blocks.length := by unfold BNames; simp
 refine zl func90 Z (by decide) Z<|zSr<|y8 (cs := _) Z Z Z<|zVzAb Z<|z6<|zSr<|z8 (zAr Z)<|z8 (zAr Z)<|z6<|adopt_wp (t := 3) (k := 1) (T := 9) Z<|fun i3 => adopt_wp (t := 4) (k := 1) (T := 9) Z<|fun i4 => zb<|zSr<|zVzFF j8 Z Zl Z Z<|zVzLf Zz Z<|zVGvlenM jv Z<|zVzMi Z<|z6<|zh<|y3 (γ := Nat × Nat) [1, 4, 12, 13] (fun g => [(3, .own g.2 g.1), (14, .int .i64 g.1)]) (fun g => [(i4, .grow 1 9 []), (g.2, .grow 1 9 ((((VNames f).take g.1).map encS).flatten))]) (fun g => g.1 ≤ f.vars.length ∧ ∀ i (h : i < f.vars.length), i < g.1 → ¬ tyWord f.vars[i].ty = ⟨#[]⟩) (fun g => f.vars.length - g.1) (0, i3) zR2 zLe (⟨qp _, fun i h h2 => absurd h2 (Nat.not_lt_zero _)⟩) ?_
 rintro ⟨k, i⟩ ⟨hk, hT⟩
 try dsimp only at *
 refine zSr<|zVGvlss Z Z<|z6<|zb<|zk Z (fun ck=>?_) (fun ck=>?_)
 ·have hk2 : k < f.vars.length := by simp at ck; omega
  refine ze<|zb<|zh<|zSr<|z8 (zIM k jv Ze Z Z Z (qm hk2))<|zVGvloadWF isAgg58 Ze Z Z<|zu (cs := [.str ⟨#[]⟩, .int .i64 0]) Yr Z Z<|fun i6 => zt Ze Z Z Z Z Z Z .head Z<|z6<|zSr<|z8 (zMo Z)<|z8 (zc Z1 Z Z0 (by decide) Z Z)<|z8 (zi (c := .str _) Zc Z ⟨_, .head⟩ Z)<|zn (rows := [[_]]) ps84_1 Z Z Z Z Z<|y5 (k := 1) Zf type9 Z Z Z Z Z (fun _ => .t2) (by rw [grow_len (k := 1) (fun _ => rfl), qx]; omega) (by decide) Z (by show (_ + 1) * 16 ≤ _; omega) (by show _ + 1 ≤ _; omega)<|fun i22 => z8 (zAo Z)<|z6<|zSr<|z8 (zc Z1 Z Ys (by decide) Z Z)<|z8 (zi (c := .int _ _) isAgg56 Z ⟨_, .head⟩ Z)<|zg (tyWord_spec _) Z<|z8 (yw Z Z)<|z6<|zk Z (fun ct=>?_) (fun ct=>?_)
  ·refine zSr<|zVzAb Z<|z6<|zf<|zj (x := .bool _) Z ?_
   exact jb (qz fun h => h.1 k hk2 (by simpa using ct)).symm
  ·refine ze<|zRg<|zVzAd Z Z<|zVzMi Z<|z6 ?_
   exact ⟨(k + 1, i22), zR4, zR2, ⟨_, (.drop (.refl _)), by dsimp only; rw [← grow_push (enc := encS) (vn_take hk2)]; rfl⟩, ⟨hk2, fun i h h2 => by by_cases e : i = k; (subst e; simpa using ct); exact hT i h (by dsimp only at h2; omega)⟩, by dsimp only; omega⟩
 ·have hkn : k = f.vars.length := by simp at ck; omega
  subst hkn
  rw [List.take_of_length_le (by omega : (VNames f).length ≤ f.vars.length)]
  have hTys : TysP f := fun i h => hT i h h
  refine y2<|zb<|zSr<|zVzFF j8 Z ju Z Z<|zVzLf Z5 Z<|zVGvlenM jh Z<|zVzMi Z<|z6<|zh<|y3 (γ := Nat × Nat) [1, 3, 29, 30] (fun g => [(4, .own g.2 g.1), (31, .int .i64 g.1)]) (fun g => [(g.2, .grow 1 9 ((((BNames f).take g.1).map encS).flatten)), (i, .grow 1 9 (((VNames f).map encS).flatten))]) (fun g => g.1 ≤ f.blocks.length) (fun g => f.blocks.length - g.1) (0, i4) zR2 zLe (qp _) ?_
  rintro ⟨k, j⟩ hk
  try dsimp only at *
  refine zSr<|zVGvlss Z Z<|z6<|zb<|zk Z (fun ck=>?_) (fun ck=>?_)
  ·have hk2 : k < f.blocks.length := by simp at ck; omega
   refine ze<|zb<|zh<|zSr<|z8 (zIM k jh jm Z Z Z (qm hk2))<|zVGvloadWF Zq jm Z Z<|zu (cs := [.str ⟨#[]⟩, .raw (.slice none 0 0), .raw (.slice none 0 0), .int .i64 0, .int .i64 0, .int .i64 0, .int .i64 0]) Z4 Z Z<|fun i8 => zt jm Z Z Z Z Z Z .head Z<|z6<|zRg<|z8 (zMo Z)<|z8 (zc j6 Z Z0 (by decide) Z Z)<|z8 (zi (c := .str _) Zc Z ⟨_, .head⟩ Z)<|zn (rows := [[_]]) ps84_1 Z Z Z Z Z<|y5 (k := 1) Zf type9 Z Z Z Z Z (fun _ => .t1) (by rw [grow_len (k := 1) (fun _ => rfl), qx]; omega) (by decide) Z (by show (_ + 1) * 16 ≤ _; omega) (by show _ + 1 ≤ _; omega)<|fun i39 => z8 (zAo Z)<|z6<|zRg<|zVzAd Z Z<|zVzMi Z<|z6 ?_
   exact ⟨(k + 1, i39), zR4, zR2, ⟨_, (.drop (.refl _)), by dsimp only; rw [← grow_push (enc := encS) (bn_take hk2)]; rfl⟩, hk2, by dsimp only; omega⟩
  ·have hkn : k = f.blocks.length := by simp at ck; omega
   subst hkn
   rw [List.take_of_length_le (by omega : (BNames f).length ≤ f.blocks.length)]
   refine y2<|zb<|zSr<|zVzFF j8 Z je Z Z<|zVzLf jn Z<|zVGvlenM j4 Z<|zVzMi Z<|z6<|zh<|y3 (γ := Nat) [1, 3, 4, 42, 43] (fun k => [(44, .int .i64 k)]) (fun k => [(j, .grow 1 9 (((BNames f).map encS).flatten)), (i, .grow 1 9 (((VNames f).map encS).flatten))]) (fun k => k ≤ f.params.length ∧ ∀ i (h : i < f.params.length), i < k → f.params[i] = (i : Int)) (fun k => f.params.length - k) 0 zR1 zLe (⟨qp _, fun i h h2 => absurd h2 (Nat.not_lt_zero _)⟩) ?_
   rintro k ⟨hk, hP⟩
   refine zSr<|zVGvlss Z Z<|z6<|zb<|zk Z (fun ck=>?_) (fun ck=>?_)
   ·have hk2 : k < f.params.length := by simp at ck; omega
    refine ze<|zb<|zh<|zSr<|zVzMi Z<|z8 (zIM k j4 j5 Z Z Z (qm hk2))<|zVzLi jd Z<|zVzAi Z<|zVzAi Z<|z6<|zSr<|zVzMi Z<|zVzMi Z<|z8 (yl Z Z)<|z6<|zz Z (fun cp=>?_) (fun cp=>?_)
    ·refine zSr<|zVzAb Z<|z6<|zf<|zj (x := .bool _) Z ?_
     exact jb (qz fun h => by have := h.2.1 k hk2; simp [this] at cp).symm
    ·refine ze<|zRg<|zVzAd Z Z<|zVzMi Z<|z6 ?_
     exact ⟨k + 1, zR5, zR1, zLe, ⟨hk2, fun i h h2 => by by_cases e : i = k; (subst e; simpa using cp); exact hP i h (by omega)⟩, by omega⟩
   ·have hkn : k = f.params.length := by simp at ck; omega
    subst hkn
    have hPar : ParP f := fun i h => hP i h h
    refine y6 (GStep.know (t := 3) (rows := (VNames f).map encS) Z .t1 (by intro r hr; obtain ⟨x, _, rfl⟩ := List.mem_map.1 hr; rfl) (by decide) (by simp))<|y6 (GStep.know (t := 4) (rows := (BNames f).map encS) Z .head (by intro r hr; obtain ⟨x, _, rfl⟩ := List.mem_map.1 hr; rfl) (by decide) (by simp))<|y2<|zSr<|zVzMf Z<|zVGvlenM Zf Z<|z8 (Gv.leq Z Z)<|zVzMb Z<|zo (s := 56) Z (fun c3=>?_) (fun c3=>?_)
    ·refine za Z Z c3<|zVzFF j8 Z je Z Z<|za Z Z c3<|zVzLf jn Z<|za Z Z c3<|zVGvlenM j4 Z<|za Z Z c3<|zVzMf Z<|za Z Z c3<|zVGvlenM Zf Z<|za Z Z c3<|z8 (Gv.minI Z Z)<|za Z Z c3<|z8 (Gv.leq Z Z)<|zVzPt Z c3 Z<|zVzMb Z<|zo (s := 65) Z (fun c4=>?_) (fun c4=>?_)
     ·refine za Z Z c4<|zVzMf Z<|za Z Z c4<|zVGvlenM Zf Z<|za Z Z c4<|z8 (qc Z Z)<|zVzPt Z c4 Z<|zVzMb Z<|zo (s := 70) Z (fun c5=>?_) (fun c5=>?_)
      ·refine za Z Z c5<|zVzMf Z<|za Z Z c5<|zVGvlenM Zf Z<|za Z Z c5<|z8 (Gv.leq Z Z)<|zVzPt Z c5 Z<|zVzMb Z<|zo (s := 75) Z (fun c6=>?_) (fun c6=>?_)
       ·refine za Z Z c6<|zVzMf Z<|za Z Z c6<|zg (unlike_spec (VNames f) (by omega) (fun s hs => by obtain ⟨v, hv, rfl⟩ := List.mem_map.1 hs; exact hn.1 v hv) hL) Z<|zVzPt Z c6 Z<|zVzMb Z<|zo (s := 79) Z (fun c7=>?_) (fun c7=>?_)
        ·refine za Z Z c7<|zVzMf Z<|za Z Z c7<|zg (unlike_spec (BNames f) (by omega) (fun s hs => by obtain ⟨v, hv, rfl⟩ := List.mem_map.1 hs; exact hn.2 v hv) hL) Z<|zVzPt Z c7 Z<|zVzAb Z<|z6<|zf<|zj (x := .bool _) Z ?_
         exact jb (by unfold NamesP LensP; simp_all <;> grind)
        ·refine z7 Z Z c7<|z7 Z Z c7<|zVzPf Z c7 Z<|zVzAb Z<|z6<|zf<|zj (x := .bool _) Z ?_
         exact jb (by unfold NamesP LensP; simp_all <;> grind)
       ·refine z7 Z Z c6<|z7 Z Z c6<|zVzPf Z c6 Z<|zVzMb Z<|z7 Z Z Z<|z7 Z Z Z<|zVzPf Z Z Z<|zVzAb Z<|z6<|zf<|zj (x := .bool _) Z ?_
        exact jb (by unfold NamesP LensP; simp_all <;> grind)
      ·refine z7 Z Z c5<|z7 Z Z c5<|z7 Z Z c5<|zVzPf Z c5 Z<|zVzMb Z<|z7 Z Z Z<|z7 Z Z Z<|zVzPf Z Z Z<|zVzMb Z<|z7 Z Z Z<|z7 Z Z Z<|zVzPf Z Z Z<|zVzAb Z<|z6<|zf<|zj (x := .bool _) Z ?_
       exact jb (by unfold NamesP LensP; simp_all <;> grind)
     ·refine z7 Z Z c4<|z7 Z Z c4<|z7 Z Z c4<|zVzPf Z c4 Z<|zVzMb Z<|z7 Z Z Z<|z7 Z Z Z<|z7 Z Z Z<|zVzPf Z Z Z<|zVzMb Z<|z7 Z Z Z<|z7 Z Z Z<|zVzPf Z Z Z<|zVzMb Z<|z7 Z Z Z<|z7 Z Z Z<|zVzPf Z Z Z<|zVzAb Z<|z6<|zf<|zj (x := .bool _) Z ?_
      exact jb (by unfold NamesP LensP; simp_all <;> grind)
    ·refine z7 Z Z c3<|z7 Z Z c3<|z7 Z Z c3<|z7 Z Z c3<|z7 Z Z c3<|z7 Z Z c3<|z7 Z Z c3<|zVzPf Z c3 Z<|zVzMb Z<|z7 Z Z Z<|z7 Z Z Z<|z7 Z Z Z<|zVzPf Z Z Z<|zVzMb Z<|z7 Z Z Z<|z7 Z Z Z<|z7 Z Z Z<|zVzPf Z Z Z<|zVzMb Z<|z7 Z Z Z<|z7 Z Z Z<|zVzPf Z Z Z<|zVzMb Z<|z7 Z Z Z<|z7 Z Z Z<|zVzPf Z Z Z<|zVzAb Z<|z6<|zf<|zj (x := .bool _) Z ?_
     exact jb (by unfold NamesP LensP; simp_all <;> grind)
def phiOK (f : PFunc) (p : PPhi) : Bool := !decide (p.args.length = 0) && decide (p.args.length = p.from_.length) && hasV f p.dst && p.args.all (hasV f) && p.from_.all (hasB f)
theorem phi1_spec (f : PFunc) (v : Int) : AFun prog E 134 ([.int .i64 v] ++ [.pf (encF f)]) (.bool (!hasB f v)) := by
 refine zl func134 Z (by decide) Z<|zSr<|zVzAb Z<|z6<|zSr<|zVGvloadWF jp ji Z Z<|zVzMi Z<|zg (at_spec _ _) Z<|zVGvnot Z<|zVzAb Z<|z6<|zf<|zj (x := .bool _) Z ?_
 rfl
theorem phi_spec (f : PFunc) (p : PPhi) (hp : okPhi p) : AFun prog E 93 [.agg (encF f), .agg (encPhi p)] (.bool (phiOK f p)) := by
 have hl1 := hp.1.lt
 have hl2 := hp.2.lt
 refine zl func93 Z (by decide) Z<|zSr<|y8 (cs := _) Z Z Z<|y8 (cs := _) Z Z Z<|zVzAb Z<|z6<|zb<|zSr<|zVzFF jg Z je Z Z<|zVzLf jn Z<|zVGvlenM j4 Z<|zVGveqlI Z Z<|zVzMb Z<|zo (s := 9) Z (fun c8=>?_) (fun c8=>?_)
 ·refine z7 Z Z c8<|z7 Z Z c8<|z7 Z Z c8<|z7 Z Z c8<|z7 Z Z c8<|z7 Z Z c8<|z7 Z Z c8<|zVzPt Z c8 Z<|zVzMb Z<|z7 Z Z Z<|z7 Z Z Z<|z7 Z Z Z<|z7 Z Z Z<|z7 Z Z Z<|zVzPt Z Z Z<|zVzMb Z<|z7 Z Z Z<|z7 Z Z Z<|z7 Z Z Z<|z7 Z Z Z<|z7 Z Z Z<|zVzPt Z Z Z<|z6<|yq Z Z<|zSr<|zVzAb Z<|z6<|zf<|zj (x := .bool _) Z ?_
  exact jb (by have := List.any_eq_not_all_not (l := p.from_) (p := fun x => !hasB f x); simp_all [phiOK, Int.ofNat_inj] <;> grind)
 ·refine za Z Z c8<|zVzFF jg Z je Z Z<|za Z Z c8<|zVzLf jn Z<|za Z Z c8<|zVGvlenM j4 Z<|za Z Z c8<|zVzFF jg Z je Z Z<|za Z Z c8<|zVzLf jn Z<|za Z Z c8<|zVGvlenM j4 Z<|za Z Z c8<|z8 (yl Z Z)<|zVzPf Z c8 Z<|zVzMb Z<|zo (s := 18) Z (fun c9=>?_) (fun c9=>?_)
  ·refine z7 Z Z c9<|z7 Z Z c9<|z7 Z Z c9<|z7 Z Z c9<|z7 Z Z c9<|zVzPt Z c9 Z<|zVzMb Z<|z7 Z Z Z<|z7 Z Z Z<|z7 Z Z Z<|z7 Z Z Z<|z7 Z Z Z<|zVzPt Z Z Z<|z6<|yq Z Z<|zSr<|zVzAb Z<|z6<|zf<|zj (x := .bool _) Z ?_
   exact jb (by have := List.any_eq_not_all_not (l := p.from_) (p := fun x => !hasB f x); simp_all [phiOK, Int.ofNat_inj] <;> grind)
  ·refine za Z Z c9<|zVGvloadWF jp ji Z Z<|za Z Z c9<|zVzFF jg Z j5 Z Z<|za Z Z c9<|zVzLi jd Z<|za Z Z c9<|zg (has_spec _ _) Z<|za Z Z c9<|zVGvnot Z<|zVzPf Z c9 Z<|zVzMb Z<|zo (s := 25) Z (fun c10=>?_) (fun c10=>?_)
   ·refine z7 Z Z c10<|z7 Z Z c10<|z7 Z Z c10<|z7 Z Z c10<|z7 Z Z c10<|zVzPt Z c10 Z<|z6<|yq Z Z<|zSr<|zVzAb Z<|z6<|zf<|zj (x := .bool _) Z ?_
    exact jb (by have := List.any_eq_not_all_not (l := p.from_) (p := fun x => !hasB f x); simp_all [phiOK, Int.ofNat_inj] <;> grind)
   ·refine za Z Z c10<|zVGvloadWF jp ji Z Z<|za Z Z c10<|zVzFF jg Z je Z Z<|za Z Z c10<|zVzLf jn Z<|za Z Z c10<|zg (vars_spec f p.args (by omega)) Z<|za Z Z c10<|zVGvnot Z<|zVzPf Z c10 Z<|z6<|zz Z (fun c11=>?_) (fun c11=>?_)
    ·refine zSr<|zVzAb Z<|z6<|zf<|zj (x := .bool _) Z ?_
     exact jb (by have := List.any_eq_not_all_not (l := p.from_) (p := fun x => !hasB f x); simp_all [phiOK, Int.ofNat_inj] <;> grind)
    ·refine ze<|zSr<|zVzFF jg Z je Z Z<|zVzLf jn Z<|z8 (Gv.func Z Z)<|zg (containsFuncI_spec p.from_ (by omega) (phi1_spec f)) Z<|zVGvnot Z<|zVzAb Z<|z6<|zf<|zj (x := .bool _) Z ?_
     exact jb (by have := List.any_eq_not_all_not (l := p.from_) (p := fun x => !hasB f x); simp_all [phiOK, Int.ofNat_inj] <;> grind)
end Go.Proofs.YtpojdepccecpgaaGreatDoor
