/- Texts, sign by sign: letters, names, words. No conditions but bounds. -/
import Derived.Test.YtbkgklpihnfnjaaGreatDoorJg
import Derived.Test.YtbkgklpihnfnjaaGreatDoorJc
import Derived.Test.YtbkgklpihnfnjaaGreatDoorJf
import Derived.Test.YtbkgklpihnfnjaaGreatDoorJd
set_option linter.unusedVariables false
set_option linter.unusedSimpArgs false
set_option linter.unusedSectionVars false
namespace Go.Proofs.YtbkgklpihnfnjaaGreatDoor
open Go.Proofs.Tryz
open Go.Proofs Go.Lib Go.Shelf Go.RowKit
theorem pl26 : Places prog 26 #[(0, 1), (1, 1), (2, 1)] [.raw (.slice none 0 0), .raw (.slice none 0 0), .raw (.slice none 0 0)] := ⟨_, _, jc, Zh, fun w => by kernel_rfl, rfl⟩
theorem pl49 : Places prog 49 #[(0, 1), (1, 1), (2, 1), (3, 4)] [.str ⟨#[]⟩, .raw (.slice none 0 0), .raw (.slice none 0 0), .int .i64 0, .int .i64 0, .int .i64 0, .int .i64 0] := ⟨_, _, ja, Zb, fun w => by kernel_rfl, rfl⟩
theorem pl60 : Places prog 60 #[(0, 1), (1, 1), (2, 1)] [.int .i64 0, .raw (.slice none 0 0), .raw (.slice none 0 0)] := ⟨_, _, jm, Zk, fun w => by kernel_rfl, rfl⟩
theorem ps47_1 : PlacesS prog 47 60 1 3 [.int .i64 0, .raw (.slice none 0 0), .raw (.slice none 0 0)] := ⟨_, jw, Z0, Zk, by decide, by decide, by kernel_rfl⟩
theorem ps42_1 : PlacesS prog 42 41 1 4 [.int .i64 0, .int .i64 0, .raw (.slice none 0 0), .int .i64 0] := ⟨_, Z1, Z7, Zt, by decide, by decide, by kernel_rfl⟩
theorem ps24_1 : PlacesS prog 24 49 1 7 [.str ⟨#[]⟩, .raw (.slice none 0 0), .raw (.slice none 0 0), .int .i64 0, .int .i64 0, .int .i64 0, .int .i64 0] := ⟨_, jo, jt, Zb, by decide, by decide, by kernel_rfl⟩
set_option maxRecDepth 20000
variable {E : World}
def smallBlk (b : PBlock) : Prop := b.name.size ≤ 1000 ∧ b.phis.length ≤ 1000 ∧ b.insts.length ≤ 1000 ∧ (∀ p ∈ b.phis, p.args.length ≤ 1000 ∧ p.from_.length ≤ 1000) ∧ ∀ x ∈ b.insts, x.args.length ≤ 1000
def small (f : PFunc) : Prop := f.vars.length ≤ 1000 ∧ f.params.length ≤ 1000 ∧ f.blocks.length ≤ 1000 ∧ (∀ v ∈ f.vars, v.name.size ≤ 1000) ∧ ∀ b ∈ f.blocks, smallBlk b
theorem small.ok {f : PFunc} (h : small f) : okFunc f := by
 obtain ⟨h1, h2, h3, h4, h5⟩ := h
 refine ⟨by unfold okL; omega, by unfold okL; omega, by unfold okL; omega, fun b hb => ?_⟩
 obtain ⟨g1, g2, g3, g4, g5⟩ := h5 b hb
 exact ⟨by unfold okL; omega, by unfold okL; omega, fun p hp => ⟨by have := g4 p hp; unfold okL; omega, by have := g4 p hp; unfold okL; omega⟩, fun x hx => by have := g5 x hx; unfold okL; omega⟩
theorem small.names {f : PFunc} (h : small f) : okNames f := ⟨fun v hv => by have := h.2.2.2.1 v hv; omega, fun b hb => by have := (h.2.2.2.2 b hb).1; omega⟩
theorem all_cell {α : Type} {enc : α → List AV} (h : ∀ x, (enc x).all AV.cell = true) (xs : List α) : (xs.map enc).flatten.all AV.cell = true := by
 induction xs with
 | nil => rfl
 | cons x xs ih => simp only [List.map_cons, List.flatten_cons, List.all_append, h, ih, Bool.and_self]
theorem cloneI_own (xs : List Int) (hl : xs.length ≤ 1000) : ACall prog E 17 [.fro 1 (xs.map encI)] [] (fun x O' => ∃ i : Nat, x = .own i xs.length ∧ Left O' [(i, .grow 1 3 (xs.map encI).flatten)] ∧ True) := by
 refine zk func17 Z (by decide) Z<|zSr<|zVzAr Z<|z6<|zb<|zSr<|zVzMf Z<|AOps.isNil j9 Z Z (fun hnil=>?_) ?_
 ·have hx : xs = [] := by simpa using hnil
  subst hx
  refine z6<|yh Z Z<|zSr<|zVzAr Z<|z6<|ze ?_
  repeat (first | refine aseqQ_ret ?_ | refine ablockQ_ret ?_)
  refine adopt_fin (s := 2) (k := 1) (T := 3) Z (fun i=>?_)
  refine zi (x := .own _ _) Z ?_
  exact ⟨i, rfl, .refl _, trivial⟩
 ·refine z6<|yc Z Z<|zf<|zSr<|AOps.buildSlice0 (k := 1) j9 Yx<|fun i5 => zVzMf Z<|zy (k := 1) j9 Yx Z Z Z Z Z (fun _ => .head) (by simp) (by decide) (all_cell (fun _ => Z) xs) (by show (_ + _) * 8 ≤ _; simp <;> omega) (by simp <;> omega)<|fun i7 => zVzAo Z<|z6<|ze<|zi (x := .own _ _) Z ?_
  exact ⟨i7, (by simp), ⟨_, .refl _, rfl⟩, trivial⟩
theorem cloneV_own (xs : List PVar) (hl : xs.length ≤ 1000) : ACall prog E 68 [.fro 2 (xs.map encVar)] [] (fun x O' => ∃ i : Nat, x = .own i xs.length ∧ Left O' [(i, .grow 2 38 (xs.map encVar).flatten)] ∧ True) := by
 refine zk func68 Z (by decide) Z<|zSr<|zVzAr Z<|z6<|zb<|zSr<|zVzMf Z<|AOps.isNil js Z Z (fun hnil=>?_) ?_
 ·have hx : xs = [] := by simpa using hnil
  subst hx
  refine z6<|yh Z Z<|zSr<|zVzAr Z<|z6<|ze ?_
  repeat (first | refine aseqQ_ret ?_ | refine ablockQ_ret ?_)
  refine adopt_fin (s := 2) (k := 2) (T := 38) Z (fun i=>?_)
  refine zi (x := .own _ _) Z ?_
  exact ⟨i, rfl, .refl _, trivial⟩
 ·refine z6<|yc Z Z<|zf<|zSr<|AOps.buildSlice0 (k := 2) js type38<|fun i5 => zVzMf Z<|zy (k := 2) js type38 Z Z Z Z Z (fun _ => .head) (by simp) (by decide) (all_cell (fun _ => Z) xs) (by show (_ + _) * 24 ≤ _; simp <;> omega) (by simp <;> omega)<|fun i7 => zVzAo Z<|z6<|ze<|zi (x := .own _ _) Z ?_
  exact ⟨i7, (by simp), ⟨_, .refl _, rfl⟩, trivial⟩
theorem cloneI_spec (xs : List Int) (hl : xs.length ≤ 1000) : AFun prog E 17 [.fro 1 (xs.map encI)] (.fro 1 (xs.map encI)) := (cloneI_own xs hl).frozen (by simp [encI]) (by decide) (by simp)
theorem cloneV_spec (xs : List PVar) (hl : xs.length ≤ 1000) : AFun prog E 68 [.fro 2 (xs.map encVar)] (.fro 2 (xs.map encVar)) := (cloneV_own xs hl).frozen (by simp [encVar]) (by decide) (by simp)
theorem copyB_own (f : PFunc) (hf : small f) : ACall prog E 34 [.agg (encF f)] [] (fun x O' => ∃ i : Nat, x = .agg [.fro 2 (f.vars.map encVar), .fro 1 (f.params.map encI), .own i f.blocks.length] ∧ Left O' [(i, .grow 7 49 (f.blocks.map encBlk).flatten)] ∧ True) := by
 obtain ⟨hf1, hf2, hf3, hf4, hf5⟩ := hf
 refine zk func34 Z (by decide) Z<|zSr<|y6 (cs := _) Z Z Z<|zq (cs := [.raw (.slice none 0 0), .raw (.slice none 0 0), .raw (.slice none 0 0)]) Zh Z Z<|fun i2 => z6<|zb<|yn (γ := Nat) [1, 2] (fun i => [(3, .po i 0)]) (fun i => [(i, .cells 26 [.fro 2 (f.vars.map encVar), .fro 1 (f.params.map encI), .raw (.slice none 0 0)]), (i2, .cells 26 [.raw (.slice none 0 0), .raw (.slice none 0 0), .raw (.slice none 0 0)])]) (fun i => True) ?_ (fun _ _ h => h) ?_
 ·refine zw (fun j => Nat.beq j 8) (by kernel_rfl) Z (zu (.rest _))<|zTk 0 Z (zFF jc Z Z9 Z Z)<|zTk 1 Z (zLf Zn Z)<|zTk 3 Z (zFF jc Z jn Z Z)<|zTk 4 Z (zLf jz Z)<|yy (i := 2) (j := 7) Z Z (by kernel_rfl) ?_ ?_
  ·refine zd (cloneV_spec _ (by omega)) Z<|z6<|yy (i := 5) (j := 7) Z Z (by kernel_rfl) ?_ ?_
   ·refine zd (cloneI_spec _ (by omega)) Z<|z6<|zTk 6 Z (y4 (cps := [(0, [_]), (1, [_])]) (rs := [_, _, .raw (.slice none 0 0)]) pl26 Z Z Z)<|zOn 7 Z<|zq (cs := [.raw (.slice none 0 0), .raw (.slice none 0 0), .raw (.slice none 0 0)]) Zh Z Z<|fun i3 => z6<|yb<|y7 (i := 8) Z (by kernel_rfl) (by kernel_rfl)<|zm jj Z Z Z Z Z Z .head Z<|z6<|yf (by kernel_rfl) ?_
    exact ⟨i3, zR2, zR1, zLe, trivial⟩
   ·refine zq (cs := [.raw (.slice none 0 0), .raw (.slice none 0 0), .raw (.slice none 0 0)]) Zh Z Z<|fun i3 => z6<|zOn 5 Z<|zd (cloneI_spec _ (by omega)) Z<|z6<|zTk 6 Z (y4 (cps := [(0, [_]), (1, [_])]) (rs := [_, _, .raw (.slice none 0 0)]) pl26 Z Z Z)<|yb<|y7 (i := 8) Z (by kernel_rfl) (by kernel_rfl)<|zm jj Z Z Z Z Z Z .head Z<|z6<|yf (by kernel_rfl) ?_
    exact ⟨i3, zR2, zR1, zLe, trivial⟩
  ·refine zq (cs := [.raw (.slice none 0 0), .raw (.slice none 0 0), .raw (.slice none 0 0)]) Zh Z Z<|fun i3 => z6<|zOn 2 Z<|zd (cloneV_spec _ (by omega)) Z<|z6<|zOn 5 Z<|zd (cloneI_spec _ (by omega)) Z<|z6<|zTk 6 Z (y4 (cps := [(0, [_]), (1, [_])]) (rs := [_, _, .raw (.slice none 0 0)]) pl26 Z Z Z)<|yb<|y7 (i := 8) Z (by kernel_rfl) (by kernel_rfl)<|zm jj Z Z Z Z Z Z .head Z<|z6<|yf (by kernel_rfl) ?_
   exact ⟨i3, zR2, zR1, zLe, trivial⟩
 ·rintro i3 _
  refine zb<|zSr<|zVzFF jc Z Z2 Z Z<|zVzLf Ze Z<|zVGvlenM jo Z<|zVzMi Z<|z6<|adoptC_wp (off := 2) (k := 7) (T := 49) (fun _ => .head) Z<|fun ib => zg<|y3 (γ := Nat × Nat) [2, 3, 19, 20] (fun g => [(21, .int .i64 g.1)]) (fun g => [(g.2, .grow 7 49 ((f.blocks.take g.1).map encBlk).flatten), (i3, .cells 26 [.fro 2 (f.vars.map encVar), .fro 1 (f.params.map encI), .own g.2 g.1]), (i2, .cells 26 [.raw (.slice none 0 0), .raw (.slice none 0 0), .raw (.slice none 0 0)])]) (fun g => g.1 ≤ f.blocks.length) (fun g => f.blocks.length - g.1) (0, ib) zR1 zLe (qg _) ?_
  rintro ⟨k, ib⟩ hk
  try dsimp only at *
  refine zSr<|zVGvlss Z Z<|z6<|zb<|zr Z (fun ck=>?_) (fun ck=>?_)
  ·have hk2 : k < f.blocks.length := by omega
   obtain ⟨hb0, hb1, hb2, hb3, hb4⟩ := hf5 _ (qh hk2)
   refine zf<|zb<|zg<|zSr<|z8 (yi jo jt Z Z Z (qd (by omega)))<|zVGvloadWF Zq jt Z Z<|zq (cs := [.str ⟨#[]⟩, .raw (.slice none 0 0), .raw (.slice none 0 0), .int .i64 0, .int .i64 0, .int .i64 0, .int .i64 0]) Zb Z Z<|fun i5 => zm jt Z Z Z Z Z Z .head Z<|z6<|zSr<|z8 (zc ja Z jx (by decide) Z Z)<|z8 (zj (c := .str _) Z5 Z ⟨_, .head⟩ Z)<|z8 (zc ja Z Z4 (by decide) Z Z)<|z8 (Gv.loadAC (l := [_, _, _, _]) Ym Z4 Z ⟨_, .head⟩ Z Z)<|z8 (y4 (cps := [(0, [_]), (3, [_, _, _, _])]) (rs := [_, .raw (.slice none 0 0), .raw (.slice none 0 0), _, _, _, _]) pl49 Z Z Z)<|zq (cs := [.str ⟨#[]⟩, .raw (.slice none 0 0), .raw (.slice none 0 0), .int .i64 0, .int .i64 0, .int .i64 0, .int .i64 0]) Zb Z Z<|fun i6 => zm jt Z Z Z Z Z Z .head Z<|z6<|zb<|zSr<|z8 (zc ja Z Za (by decide) Z Z)<|z8 (zj (c := .fro _ _) Zu Z ⟨_, .t1⟩ Z)<|zVGvlenM jw Z<|zVzMi Z<|z6<|adoptC_wp (off := 1) (k := 3) (T := 60) (fun _ => .head) Z<|fun ip => zt (zn (zp .t1))<|zg<|y3 (γ := Nat × Nat) [2, 3, 5, 6, 19, 20, 21, 31, 32] (fun g => [(33, .int .i64 g.1)]) (fun g => [(i6, .cells 49 [.str f.blocks[k].name, .own g.2 g.1, .raw (.slice none 0 0), .int .i64 f.blocks[k].term.kind, .int .i64 f.blocks[k].term.var, .int .i64 f.blocks[k].term.to0, .int .i64 f.blocks[k].term.to1]), (g.2, .grow 3 60 ((f.blocks[k].phis.take g.1).map encPhi).flatten), (i5, .cells 49 (encBlk f.blocks[k])), (ib, .grow 7 49 ((f.blocks.take k).map encBlk).flatten), (i3, .cells 26 [.fro 2 (f.vars.map encVar), .fro 1 (f.params.map encI), .own ib k]), (i2, .cells 26 [.raw (.slice none 0 0), .raw (.slice none 0 0), .raw (.slice none 0 0)])]) (fun g => g.1 ≤ f.blocks[k].phis.length) (fun g => f.blocks[k].phis.length - g.1) (0, ip) zR1 zLe (qg _) ?_
   rintro ⟨m, ip⟩ hm
   try dsimp only at *
   refine zSr<|zVGvlss Z Z<|z6<|zb<|zr Z (fun cm=>?_) (fun cm=>?_)
   ·have hm2 : m < f.blocks[k].phis.length := by omega
    obtain ⟨hp1, hp2⟩ := hb3 _ (qh hm2)
    refine zf<|zb<|zg<|zSr<|z8 (yi jw Z0 Z Z Z (qd (by omega)))<|zVGvloadWF Zv Z0 Z Z<|zq (cs := [.int .i64 0, .raw (.slice none 0 0), .raw (.slice none 0 0)]) Zk Z Z<|fun i8 => zm Z0 Z Z Z Z Z Z .head Z<|z6<|zw (fun j => Nat.beq j 14) (by kernel_rfl) Z (zu (.r (.r (.rest _))))<|zTk 0 Z (zc ja Z Za (by decide) Z Z)<|zTk 1 Z (zj (c := .own _ _) Zu Z ⟨_, .t1⟩ Z)<|zTk 2 Z (zc jm Z jd (by decide) Z Z)<|zTk 3 Z (zj (c := .int _ _) jr Z ⟨_, .head⟩ Z)<|zTk 4 Z (zc jm Z jn (by decide) Z Z)<|zTk 5 Z (zj (c := .fro _ _) jz Z ⟨_, .head⟩ Z)<|zTk 7 Z (zc jm Z jn (by decide) Z Z)<|zTk 8 Z (zj (c := .fro _ _) jz Z ⟨_, .head⟩ Z)<|zOn 6 Z<|zd (cloneI_spec _ (by omega)) Z<|z6<|zOn 9 Z<|zd (cloneI_spec _ (by omega)) Z<|z6<|zTk 10 Z (y4 (cps := [(0, [_]), (1, [_]), (2, [_])]) (rs := [_, _, _]) pl60 Z Z Z)<|zOn 11 Z<|zl (rows := [[_, _, _]]) ps47_1 Z Z Z Z Z<|z6<|zOn 12 Z<|zy (k := 3) jw type60 Z Z Z Z Z (fun _ => .head) (by rw [grow_len (k := 3) (fun _ => rfl), qp, Nat.min_eq_left hm]) (by decide) Z (by show (_ + _) * 56 ≤ _; simp <;> omega) (by simp <;> omega)<|fun i49 => z6<|zTk 13 Z (zc ja Z Za (by decide) Z Z)<|yb<|y7 (i := 14) Z (by kernel_rfl) (by kernel_rfl)<|y5 (l := [_]) (new := [_, _, _, _, _, _, _]) Za Z Z Z Z Z Z .t1 Z Z<|z6<|yf (by kernel_rfl)<|zRg<|zVzAd Z Z ?_
    refine zVzMi Z<|z6 ?_
    exact ⟨(m + 1, i49), zR9, zR1, ⟨_, (.drop (.refl _)), by rw [← grow_push (qe hm2)]; rfl⟩, hm2, by dsimp only; omega⟩
   ·obtain rfl : m = f.blocks[k].phis.length := by omega
    refine y2<|zb<|zSr<|z8 (zc ja Z Zi (by decide) Z Z)<|z8 (zj (c := .fro _ _) Y1 Z ⟨_, .t2⟩ Z)<|zVGvlenM Z1 Z<|zVzMi Z<|z6<|adoptC_wp (off := 2) (k := 4) (T := 41) (fun _ => .head) Z<|fun ii => zg<|y3 (γ := Nat × Nat) [2, 3, 6, 19, 20, 21, 53, 54] (fun g => [(55, .int .i64 g.1)]) (fun g => [(g.2, .grow 4 41 ((f.blocks[k].insts.take g.1).map encInst).flatten), (i6, .cells 49 [.str f.blocks[k].name, .own ip f.blocks[k].phis.length, .own g.2 g.1, .int .i64 f.blocks[k].term.kind, .int .i64 f.blocks[k].term.var, .int .i64 f.blocks[k].term.to0, .int .i64 f.blocks[k].term.to1]), (ip, .grow 3 60 (f.blocks[k].phis.map encPhi).flatten), (i5, .cells 49 (encBlk f.blocks[k])), (ib, .grow 7 49 ((f.blocks.take k).map encBlk).flatten), (i3, .cells 26 [.fro 2 (f.vars.map encVar), .fro 1 (f.params.map encI), .own ib k]), (i2, .cells 26 [.raw (.slice none 0 0), .raw (.slice none 0 0), .raw (.slice none 0 0)])]) (fun g => g.1 ≤ f.blocks[k].insts.length) (fun g => f.blocks[k].insts.length - g.1) (0, ii) zR1 ⟨_, (.refl _), by rw [qi]; rfl⟩ (qg _) ?_
    rintro ⟨m, ii⟩ hm
    try dsimp only at *
    refine zSr<|zVGvlss Z Z<|z6<|zb<|zr Z (fun cm=>?_) (fun cm=>?_)
    ·have hm2 : m < f.blocks[k].insts.length := by omega
     have hp1 := hb4 _ (qh hm2)
     refine zf<|zb<|zg<|zSr<|z8 (yi Z1 Z7 Z Z Z (qd (by omega)))<|zVGvloadWF Y3 Z7 Z Z<|zq (cs := [.int .i64 0, .int .i64 0, .raw (.slice none 0 0), .int .i64 0]) Zt Z Z<|fun i10 => zm Z7 Z Z Z Z Z Z .head Z<|z6<|zSr<|z8 (zc jk Z jn (by decide) Z Z)<|z8 (zj (c := .fro _ _) jz Z ⟨_, .head⟩ Z)<|zd (cloneI_spec _ (by omega)) Z<|z8 (zc jk Z jn (by decide) Z Z)<|y5 (l := [_]) (new := [_, _, _, _]) jn Z Z Z Z Z Z .head Z Z<|z6<|zRg<|z8 (zc ja Z Zi (by decide) Z Z)<|z8 (zj (c := .own _ _) Y1 Z ⟨_, .t2⟩ Z)<|z8 (yg Y3 Z7 Z ⟨_, .head⟩ Z)<|zl (rows := [[_, _, _, _]]) ps42_1 Z Z Z Z Z<|zy (k := 4) Z1 type41 Z Z Z Z Z (fun _ => .t1) (by rw [grow_len (k := 4) (fun _ => rfl), qp, Nat.min_eq_left hm]) (by decide) Z (by show (_ + _) * 48 ≤ _; simp <;> omega) (by simp <;> omega)<|fun i67 => z8 (zc ja Z Zi (by decide) Z Z)<|y5 (l := [_]) (new := [_, _, _, _, _, _, _]) Zi Z Z Z Z Z Z .t2 Z Z<|z6<|zRg<|zVzAd Z Z<|zVzMi Z<|z6 ?_
     exact ⟨(m + 1, i67), zR8, zR1, ⟨_, (.drop (.refl _)), by rw [← grow_push (qe hm2)]; rfl⟩, hm2, by dsimp only; omega⟩
    ·obtain rfl : m = f.blocks[k].insts.length := by omega
     rw [qi]
     refine y2<|zt (ym (off := 1) (rows := f.blocks[k].phis.map encPhi) .t2 .t1 Z (by simp [encI, encVar, encPhi, encInst, encBlk]) (by decide) (by simp))<|zt (ym (off := 2) (rows := f.blocks[k].insts.map encInst) .head .head Z (by simp [encI, encVar, encPhi, encInst, encBlk]) (by decide) (by simp))<|zRg<|z8 (zc jc Z Z2 (by decide) Z Z)<|z8 (zj (c := .own _ _) Ze Z ⟨_, .t3⟩ Z)<|z8 (yg Zq jt Z ⟨_, .head⟩ Z)<|zl (rows := [[_, _, _, _, _, _, _]]) ps24_1 Z Z Z Z Z<|zy (k := 7) jo type49 Z Z Z Z Z (fun _ => .t2) (by rw [grow_len (k := 7) (fun _ => rfl), qp, Nat.min_eq_left hk]) (by decide) Z (by show (_ + _) * 96 ≤ _; simp <;> omega) (by simp <;> omega)<|fun i74 => z8 (zc jc Z Z2 (by decide) Z Z)<|y5 (l := [_]) (new := [_, _, _]) Z2 Z Z Z Z Z Z .t3 Z Z<|z6<|zRg<|zVzAd Z Z<|zVzMi Z<|z6 ?_
     exact ⟨(k + 1, i74), zR4, zR1, ⟨_, (.drop (.drop (.refl _))), by rw [← grow_push (qe hk2)]; rfl⟩, hk2, by dsimp only; omega⟩
  ·obtain rfl : k = f.blocks.length := by omega
   rw [qi]
   refine y2<|zSr<|z8 (yg ju jj Z ⟨_, .t1⟩ Z)<|zm jj Z Z Z Z Z Z .t2 Z<|z6<|ze<|afin.c1 Z ⟨_, .t2⟩ ju jj Z ?_
   exact ⟨ib, rfl, ⟨_, .keep (.drop (.drop (.refl _))), rfl⟩, trivial⟩
end Go.Proofs.YtbkgklpihnfnjaaGreatDoor
namespace Go.Proofs.YtbkgklpihnfnjaaGreatDoor
open Go.Proofs.Tryz
open Go.Proofs Go.Lib Go.Shelf Go.RowKit
set_option maxRecDepth 20000
variable {E : World}
theorem copyF_spec (f : PFunc) (hf : small f) : AFun prog E 34 [.agg (encF f)] (.agg (encF f)) :=
 (copyB_own f hf).know fun I F w v y O' ⟨i, e, hl, _⟩ h1 h2 => by
  subst e
  obtain ⟨J, h3, h4, h5⟩ := Go.Proofs.YtbkgklpihnfnjaaGreatDoor.know (m := f.blocks.length) .head (by simp [encBlk]) (by decide) (by simp) (hl.sla h2)
  obtain ⟨vs, ev, v1, us1, e1, r1, v2, us2, e2, r2, v3, us3, e3, r3, r4⟩ := h1
  exact ⟨J, .agg (encF f), [], h3, ⟨vs, ev, v1, us1, e1, RepV.mono h3 _ _ r1, v2, us2, e2, RepV.mono h3 _ _ r2, v3, us3, e3, h5 _ r3, r4⟩, h4, rfl⟩
def headDiff (f g : PFunc) : Bool := !decide ((f.vars.length : Int) = g.vars.length) || (!decide (f.params = g.params) || !decide ((f.blocks.length : Int) = g.blocks.length))
def blkDiff (x y : PBlock) : Bool := !decide (x.name = y.name) || (!decide (x.term.kind = y.term.kind ∧ x.term.var = y.term.var ∧ x.term.to0 = y.term.to0 ∧ x.term.to1 = y.term.to1) || (!decide ((x.phis.length : Int) = y.phis.length) || !decide ((x.insts.length : Int) = y.insts.length)))
theorem headDiff_f {f g : PFunc} (h : headDiff f g = false) : f.vars.length = g.vars.length ∧ f.params = g.params ∧ f.blocks.length = g.blocks.length := by
 unfold headDiff at h; simp at h; exact ⟨by omega, h.2.1, by omega⟩
theorem blkDiff_f {f g : PBlock} (h : blkDiff f g = false) : (f.name = g.name ∧ f.term = g.term) ∧ f.phis.length = g.phis.length ∧ f.insts.length = g.insts.length := by
 unfold blkDiff at h; simp at h
 obtain ⟨h1, h2, h3, h4⟩ := h
 refine ⟨⟨h1, ?_⟩, by omega, by omega⟩
 obtain ⟨a, b, c, ⟨d1, d2, d3, d4⟩⟩ := f; obtain ⟨a', b', c', ⟨d1', d2', d3', d4'⟩⟩ := g
 simp_all
theorem blk_ext {x y : PBlock} (h1 : x.name = y.name) (h2 : x.term = y.term) (h3 : x.phis = y.phis) (h4 : x.insts = y.insts) : x = y := by
 cases x; cases y; simp_all
theorem func_ext {x y : PFunc} (h1 : x.vars = y.vars) (h2 : x.params = y.params) (h3 : x.blocks = y.blocks) : x = y := by
 cases x; cases y; simp_all
theorem phi_diff (x y : PPhi) : decide (x = y) = !(!decide (x.dst = y.dst) || (!decide (x.args = y.args) || !decide (x.from_ = y.from_))) := by
 rw [phi_iff]; simp [Bool.and_assoc]
theorem inst_diff (x y : PInst) : decide (x = y) = !(!decide (x.op = y.op) || (!decide (x.dst = y.dst) || (!decide (x.num = y.num) || !decide (x.args = y.args)))) := by
 rw [inst_iff]; simp [Bool.and_assoc]
set_option maxHeartbeats 8000000 in
theorem refSame_spec (f g : PFunc) (hf : okFunc f) : AFun prog E 8 [.agg (encF f), .agg (encF g)] (.bool (decide (f = g))) := by
 obtain ⟨hf1, hf2, hf3, hf4⟩ := hf
 have hl1 := hf1.lt
 have hl3 := hf3.lt
 refine zk func8 Z (by decide) Z<|zSr<|y6 (cs := _) Z Z Z<|y6 (cs := _) Z Z Z<|zVzAb Z<|z6<|zb<|zb<|yn (γ := Unit) [2, 3] (fun u => [(38, .bool (headDiff f g))]) (fun u => []) (fun u => True) ?_ (fun _ _ h => h) ?_
 ·refine zRg<|zVzFF jc Z Z9 Z Z<|zVzLf Zn Z<|zVGvlenM js Z<|zVzFF jc Z Z9 Z Z<|zVzLf Zn Z<|zVGvlenM js Z<|zVGvneqI Z Z<|zVzMb Z<|zo (s := 22) Z (fun c1=>?_) (fun c1=>?_)
  ·refine z7 Z Z c1<|z7 Z Z c1<|z7 Z Z c1<|z7 Z Z c1<|z7 Z Z c1<|z7 Z Z c1<|zVzPt Z c1 Z<|zVzMb Z<|z7 Z Z Z<|z7 Z Z Z<|z7 Z Z Z<|z7 Z Z Z<|z7 Z Z Z<|z7 Z Z Z<|z7 Z Z Z<|zVzPt Z Z Z<|z6 ?_
   exact ⟨(), zR2, ⟨jb (by simp_all [headDiff]), trivial⟩, zLe, trivial⟩
  ·refine za Z Z c1<|zVzFF jc Z jn Z Z<|za Z Z c1<|zVzLf jz Z<|za Z Z c1<|zVzFF jc Z jn Z Z<|za Z Z c1<|zVzLf jz Z<|za Z Z c1<|zd (ints_spec _ _ (by assumption)) Z<|za Z Z c1<|zVGvnot Z<|zVzPf Z c1 Z<|zVzMb Z<|zo (s := 30) Z (fun c2=>?_) (fun c2=>?_)
   ·refine z7 Z Z c2<|z7 Z Z c2<|z7 Z Z c2<|z7 Z Z c2<|z7 Z Z c2<|z7 Z Z c2<|z7 Z Z c2<|zVzPt Z c2 Z<|z6 ?_
    exact ⟨(), zR2, ⟨jb (by simp_all [headDiff]), trivial⟩, zLe, trivial⟩
   ·refine za Z Z c2<|zVzFF jc Z Z2 Z Z<|za Z Z c2<|zVzLf Ze Z<|za Z Z c2<|zVGvlenM jo Z<|za Z Z c2<|zVzFF jc Z Z2 Z Z<|za Z Z c2<|zVzLf Ze Z<|za Z Z c2<|zVGvlenM jo Z<|za Z Z c2<|zVGvneqI Z Z<|zVzPf Z c2 Z<|z6 ?_
    exact ⟨(), zR2, ⟨jb (by simp_all [headDiff]), trivial⟩, zLe, trivial⟩
 ·rintro _ _
  refine zz Z (fun c0=>?_) (fun c0=>?_)
  ·refine zSr<|zVzAb Z<|z6<|ze<|zi (x := .bool _) Z ?_
   rw [qr (fun e => by subst e; simp [headDiff] at c0)]
  ·obtain ⟨hv, hpar, hbl⟩ := headDiff_f c0
   refine zf<|zb<|zSr<|zVzFF jc Z Z9 Z Z<|zVzLf Zn Z<|zVGvlenM js Z<|zVzMi Z<|z6<|zg<|y3 (γ := Nat) [2, 3, 41] (fun k => [(42, .int .i64 k)]) (fun k => []) (fun k => k ≤ f.vars.length ∧ f.vars.take k = g.vars.take k) (fun k => f.vars.length - k) 0 zR1 zLe (⟨qg _, Z⟩) ?_
   rintro k ⟨hk, hpre⟩
   refine zSr<|zVGvlss Z Z<|z6<|zb<|zr Z (fun ck=>?_) (fun ck=>?_)
   ·have hk1 : k < f.vars.length := by omega
    have hk2 : k < g.vars.length := by omega
    refine zf<|zb<|zg<|zSr<|zVzMi Z<|zVzAi Z<|z6<|zb<|zw (fun j => false) (by kernel_rfl) Z (zu (.rest _))<|zTk 0 Z (zFF jc Z Z9 Z Z)<|zTk 1 Z (zLf Zn Z)<|zTk 2 Z (zMi Z)<|zTk 3 Z (yi js Zd Z Z Z (qd (by omega)))<|zTk 4 Z (yq Xg Zd Z Z)<|zTk 5 Z (zFF jc Z Z9 Z Z)<|zTk 6 Z (zLf Zn Z)<|zTk 7 Z (zMi Z)<|zTk 8 Z (yi js Zd Z Z Z (qd (by omega)))<|zTk 9 Z (yq Xg Zd Z Z)<|zTk 10 Z (Gv.neqP (xs := [.string _, .int _ _]) (ys := [.string _, .int _ _]) (by kernel_rfl) Z Z (fun w => eq_var _ _ _ _ w))<|zDn<|zz Z (fun cd=>?_) (fun cd=>?_)
    ·refine zSr<|zVzAb Z<|z6<|ze<|zi (x := .bool _) Z ?_
     rw [qr (fun e => by subst e; simp at cd)]
    ·refine zf<|zRg<|zVzAd Z Z<|zVzMi Z<|z6 ?_
     exact ⟨k + 1, zR3, zR1, zLe, ⟨hk1, take_push hk1 hk2 hpre (var_ext (by simpa using cd))⟩, by omega⟩
   ·have hvars := take_done hv (by omega) hpre
    refine y2<|zb<|zSr<|zVzFF jc Z Z2 Z Z<|zVzLf Ze Z<|zVGvlenM jo Z<|zVzMi Z<|z6<|zg<|y3 (γ := Nat) [3, 58, 59] (fun k => [(60, .int .i64 k)]) (fun k => []) (fun k => k ≤ f.blocks.length ∧ f.blocks.take k = g.blocks.take k) (fun k => f.blocks.length - k) 0 zR1 zLe (⟨qg _, Z⟩) ?_
    rintro k ⟨hk, hpre2⟩
    refine zSr<|zVGvlss Z Z<|z6<|zb<|zr Z (fun ck=>?_) (fun ck=>?_)
    ·have hi1 : k < f.blocks.length := by omega
     have hi2 : k < g.blocks.length := by omega
     obtain ⟨hx1, hx2, hx3, hx4⟩ := hf4 _ (qh hi1)
     have hl4 := hx1.lt
     have hl5 := hx2.lt
     refine zf<|zb<|zg<|zSr<|zVzMi Z<|z8 (yi jo jt Z Z Z (qd (by omega)))<|zVGvloadWF Zq jt Z Z<|zq (cs := [.str ⟨#[]⟩, .raw (.slice none 0 0), .raw (.slice none 0 0), .int .i64 0, .int .i64 0, .int .i64 0, .int .i64 0]) Zb Z Z<|fun i7 => zVzAi Z<|zm jt Z Z Z Z Z Z .head Z<|z6<|zSr<|zVzFF jc Z Z2 Z Z<|zVzLf Ze Z<|zVzMi Z<|z8 (yi jo jt Z Z Z (qd (by omega)))<|zVGvloadWF Zq jt Z Z<|zq (cs := [.str ⟨#[]⟩, .raw (.slice none 0 0), .raw (.slice none 0 0), .int .i64 0, .int .i64 0, .int .i64 0, .int .i64 0]) Zb Z Z<|fun i8 => zm jt Z Z Z Z Z Z .head Z<|z6<|zb<|zb<|yn (γ := Unit) [3, 7, 8, 58, 59, 60] (fun u => [(99, .bool (blkDiff f.blocks[k] g.blocks[k]))]) (fun u => [(i8, .cells 49 (encBlk g.blocks[k])), (i7, .cells 49 (encBlk f.blocks[k]))]) (fun u => True) ?_ (fun _ _ h => h) ?_
     ·refine zRg<|z8 (zc ja Z jx (by decide) Z Z)<|z8 (zj (c := .str _) Z5 Z ⟨_, .t1⟩ Z)<|z8 (zc ja Z jx (by decide) Z Z)<|z8 (zj (c := .str _) Z5 Z ⟨_, .head⟩ Z)<|z8 (Gv.neqT Z Z)<|zVzMb Z<|zo (s := 75) Z (fun c3=>?_) (fun c3=>?_)
      ·refine z7 Z Z c3<|z7 Z Z c3<|z7 Z Z c3<|z7 Z Z c3<|z7 Z Z c3<|zVzPt Z c3 Z<|zVzMb Z<|z7 Z Z Z<|z7 Z Z Z<|z7 Z Z Z<|z7 Z Z Z<|z7 Z Z Z<|z7 Z Z Z<|z7 Z Z Z<|zVzPt Z Z Z<|zVzMb Z<|z7 Z Z Z<|z7 Z Z Z<|z7 Z Z Z<|z7 Z Z Z<|z7 Z Z Z<|z7 Z Z Z<|z7 Z Z Z<|zVzPt Z Z Z<|z6 ?_
       exact ⟨(), zR6, ⟨jb (by simp_all [blkDiff]), trivial⟩, zLe, trivial⟩
      ·refine za Z Z c3<|z8 (zc ja Z Z4 (by decide) Z Z)<|za Z Z c3<|z8 (Gv.loadAC (l := [_, _, _, _]) Ym Z4 Z ⟨_, .t1⟩ Z Z)<|za Z Z c3<|z8 (zc ja Z Z4 (by decide) Z Z)<|za Z Z c3<|z8 (Gv.loadAC (l := [_, _, _, _]) Ym Z4 Z ⟨_, .head⟩ Z Z)<|za Z Z c3<|z8 (Gv.neqP (xs := [.int _ _, .int _ _, .int _ _, .int _ _]) (ys := [.int _ _, .int _ _, .int _ _, .int _ _]) (by kernel_rfl) Z Z (fun w => eq_term _ _ _ _ _ _ _ _ w))<|zVzPf Z c3 Z<|zVzMb Z<|zo (s := 82) Z (fun c4=>?_) (fun c4=>?_)
       ·refine z7 Z Z c4<|z7 Z Z c4<|z7 Z Z c4<|z7 Z Z c4<|z7 Z Z c4<|z7 Z Z c4<|z7 Z Z c4<|zVzPt Z c4 Z<|zVzMb Z<|z7 Z Z Z<|z7 Z Z Z<|z7 Z Z Z<|z7 Z Z Z<|z7 Z Z Z<|z7 Z Z Z<|z7 Z Z Z<|zVzPt Z Z Z<|z6 ?_
        exact ⟨(), zR6, ⟨jb (by simp_all [blkDiff]), trivial⟩, zLe, trivial⟩
       ·refine za Z Z c4<|z8 (zc ja Z Za (by decide) Z Z)<|za Z Z c4<|z8 (zj (c := .fro _ _) Zu Z ⟨_, .t1⟩ Z)<|za Z Z c4<|zVGvlenM jw Z<|za Z Z c4<|z8 (zc ja Z Za (by decide) Z Z)<|za Z Z c4<|z8 (zj (c := .fro _ _) Zu Z ⟨_, .head⟩ Z)<|za Z Z c4<|zVGvlenM jw Z<|za Z Z c4<|zVGvneqI Z Z<|zVzPf Z c4 Z<|zVzMb Z<|zo (s := 91) Z (fun c5=>?_) (fun c5=>?_)
        ·refine z7 Z Z c5<|z7 Z Z c5<|z7 Z Z c5<|z7 Z Z c5<|z7 Z Z c5<|z7 Z Z c5<|z7 Z Z c5<|zVzPt Z c5 Z<|z6 ?_
         exact ⟨(), zR6, ⟨jb (by simp_all [blkDiff]), trivial⟩, zLe, trivial⟩
        ·refine za Z Z c5<|z8 (zc ja Z Zi (by decide) Z Z)<|za Z Z c5<|z8 (zj (c := .fro _ _) Y1 Z ⟨_, .t1⟩ Z)<|za Z Z c5<|zVGvlenM Z1 Z<|za Z Z c5<|z8 (zc ja Z Zi (by decide) Z Z)<|za Z Z c5<|z8 (zj (c := .fro _ _) Y1 Z ⟨_, .head⟩ Z)<|za Z Z c5<|zVGvlenM Z1 Z<|za Z Z c5<|zVGvneqI Z Z<|zVzPf Z c5 Z<|z6 ?_
         exact ⟨(), zR6, ⟨jb (by simp_all [blkDiff]), trivial⟩, zLe, trivial⟩
     ·rintro _ _
      refine zz Z (fun cb=>?_) (fun cb=>?_)
      ·refine zSr<|zVzAb Z<|z6<|ze<|zi (x := .bool _) Z ?_
       rw [qr (fun e => by subst e; simp [blkDiff] at cb)]
      ·obtain ⟨⟨hbn, hbt⟩, hbp, hbi⟩ := blkDiff_f cb
       refine zf<|zb<|zSr<|z8 (zc ja Z Za (by decide) Z Z)<|z8 (zj (c := .fro _ _) Zu Z ⟨_, .t1⟩ Z)<|zVGvlenM jw Z<|zVzMi Z<|z6<|zg<|y3 (γ := Nat) [3, 7, 8, 58, 59, 60, 101, 102] (fun m => [(103, .int .i64 m)]) (fun m => [(i8, .cells 49 (encBlk g.blocks[k])), (i7, .cells 49 (encBlk f.blocks[k]))]) (fun m => m ≤ f.blocks[k].phis.length ∧ f.blocks[k].phis.take m = g.blocks[k].phis.take m) (fun m => f.blocks[k].phis.length - m) 0 zR1 zLe (⟨qg _, Z⟩) ?_
       rintro m ⟨hm, hpre3⟩
       refine zSr<|zVGvlss Z Z<|z6<|zb<|zr Z (fun cm=>?_) (fun cm=>?_)
       ·have hj1 : m < f.blocks[k].phis.length := by omega
        have hj2 : m < g.blocks[k].phis.length := by omega
        obtain ⟨hy1, hy2⟩ := hx3 _ (qh hj1)
        refine zf<|zb<|zg<|zSr<|zVzMi Z<|z8 (yi jw Z0 Z Z Z (qd (by omega)))<|zVGvloadWF Zv Z0 Z Z<|zq (cs := [.int .i64 0, .raw (.slice none 0 0), .raw (.slice none 0 0)]) Zk Z Z<|fun i10 => zVzAi Z<|zm Z0 Z Z Z Z Z Z .head Z<|z6<|zSr<|z8 (zc ja Z Za (by decide) Z Z)<|z8 (zj (c := .fro _ _) Zu Z ⟨_, .t1⟩ Z)<|zVzMi Z<|z8 (yi jw Z0 Z Z Z (qd (by omega)))<|zVGvloadWF Zv Z0 Z Z<|zq (cs := [.int .i64 0, .raw (.slice none 0 0), .raw (.slice none 0 0)]) Zk Z Z<|fun i11 => zm Z0 Z Z Z Z Z Z .head Z<|z6<|zb<|yn (γ := Unit) [3, 7, 8, 58, 59, 60, 101, 102, 103] (fun u => [(133, .bool (!decide (f.blocks[k].phis[m] = g.blocks[k].phis[m])))]) (fun u => [(i8, .cells 49 (encBlk g.blocks[k])), (i7, .cells 49 (encBlk f.blocks[k]))]) (fun u => True) ?_ (fun _ _ h => h) ?_
        ·refine zRg<|z8 (zc jm Z jd (by decide) Z Z)<|z8 (zj (c := .int _ _) jr Z ⟨_, .t1⟩ Z)<|z8 (zc jm Z jd (by decide) Z Z)<|z8 (zj (c := .int _ _) jr Z ⟨_, .head⟩ Z)<|zVGvneqI Z Z<|zVzMb Z<|zo (s := 118) Z (fun c6=>?_) (fun c6=>?_)
         ·refine z7 Z Z c6<|z7 Z Z c6<|z7 Z Z c6<|z7 Z Z c6<|z7 Z Z c6<|z7 Z Z c6<|zVzPt Z c6 Z<|zVzMb Z<|z7 Z Z Z<|z7 Z Z Z<|z7 Z Z Z<|z7 Z Z Z<|z7 Z Z Z<|z7 Z Z Z<|zVzPt Z Z Z<|z6 ?_
          exact ⟨(), zR9, ⟨jb (by rw [phi_diff, Bool.not_not]; simp_all), trivial⟩, ⟨_, (.drop (.drop (.refl _))), rfl⟩, trivial⟩
         ·refine za Z Z c6<|z8 (zc jm Z jn (by decide) Z Z)<|za Z Z c6<|z8 (zj (c := .fro _ _) jz Z ⟨_, .t1⟩ Z)<|za Z Z c6<|z8 (zc jm Z jn (by decide) Z Z)<|za Z Z c6<|z8 (zj (c := .fro _ _) jz Z ⟨_, .head⟩ Z)<|za Z Z c6<|zd (ints_spec _ _ (by assumption)) Z<|za Z Z c6<|zVGvnot Z<|zVzPf Z c6 Z<|zVzMb Z<|zo (s := 126) Z (fun c7=>?_) (fun c7=>?_)
          ·refine z7 Z Z c7<|z7 Z Z c7<|z7 Z Z c7<|z7 Z Z c7<|z7 Z Z c7<|z7 Z Z c7<|zVzPt Z c7 Z<|z6 ?_
           exact ⟨(), zR9, ⟨jb (by rw [phi_diff, Bool.not_not]; simp_all), trivial⟩, ⟨_, (.drop (.drop (.refl _))), rfl⟩, trivial⟩
          ·refine za Z Z c7<|z8 (zc jm Z jn (by decide) Z Z)<|za Z Z c7<|z8 (zj (c := .fro _ _) jz Z ⟨_, .t1⟩ Z)<|za Z Z c7<|z8 (zc jm Z jn (by decide) Z Z)<|za Z Z c7<|z8 (zj (c := .fro _ _) jz Z ⟨_, .head⟩ Z)<|za Z Z c7<|zd (ints_spec _ _ (by assumption)) Z<|za Z Z c7<|zVGvnot Z<|zVzPf Z c7 Z<|z6 ?_
           exact ⟨(), zR9, ⟨jb (by rw [phi_diff, Bool.not_not]; simp_all), trivial⟩, ⟨_, (.drop (.drop (.refl _))), rfl⟩, trivial⟩
        ·rintro _ _
         refine zz Z (fun cp=>?_) (fun cp=>?_)
         ·refine zSr<|zVzAb Z<|z6<|ze<|zi (x := .bool _) Z ?_
          rw [qr (fun e => by subst e; simp at cp)]
         ·refine zf<|zRg<|zVzAd Z Z<|zVzMi Z<|z6 ?_
          exact ⟨m + 1, zR8, zR1, zLe, ⟨hj1, take_push hj1 hj2 hpre3 (by simpa using cp)⟩, by omega⟩
       ·have hphis := take_done hbp (by omega) hpre3
        refine y2<|zSr<|z8 (zc ja Z Zi (by decide) Z Z)<|z8 (zj (c := .fro _ _) Y1 Z ⟨_, .t1⟩ Z)<|zVGvlenM Z1 Z<|zVzMi Z<|z6<|zg<|y3 (γ := Nat) [3, 8, 58, 59, 60, 136, 137] (fun m => [(138, .int .i64 m)]) (fun m => [(i8, .cells 49 (encBlk g.blocks[k])), (i7, .cells 49 (encBlk f.blocks[k]))]) (fun m => m ≤ f.blocks[k].insts.length ∧ f.blocks[k].insts.take m = g.blocks[k].insts.take m) (fun m => f.blocks[k].insts.length - m) 0 zR1 zLe (⟨qg _, Z⟩) ?_
        rintro m ⟨hm, hpre3⟩
        refine zSr<|zVGvlss Z Z<|z6<|zb<|zr Z (fun cm=>?_) (fun cm=>?_)
        ·have hj1 : m < f.blocks[k].insts.length := by omega
         have hj2 : m < g.blocks[k].insts.length := by omega
         have hy1 := hx4 _ (qh hj1)
         refine zf<|zb<|zg<|zSr<|zVzMi Z<|z8 (yi Z1 Z7 Z Z Z (qd (by omega)))<|zVGvloadWF Y3 Z7 Z Z<|zq (cs := [.int .i64 0, .int .i64 0, .raw (.slice none 0 0), .int .i64 0]) Zt Z Z<|fun i13 => zVzAi Z<|zm Z7 Z Z Z Z Z Z .head Z<|z6<|zSr<|z8 (zc ja Z Zi (by decide) Z Z)<|z8 (zj (c := .fro _ _) Y1 Z ⟨_, .t1⟩ Z)<|zVzMi Z<|z8 (yi Z1 Z7 Z Z Z (qd (by omega)))<|zVGvloadWF Y3 Z7 Z Z<|zq (cs := [.int .i64 0, .int .i64 0, .raw (.slice none 0 0), .int .i64 0]) Zt Z Z<|fun i14 => zm Z7 Z Z Z Z Z Z .head Z<|z6<|zb<|yn (γ := Unit) [3, 8, 58, 59, 60, 136, 137, 138] (fun u => [(174, .bool (!decide (f.blocks[k].insts[m] = g.blocks[k].insts[m])))]) (fun u => [(i8, .cells 49 (encBlk g.blocks[k])), (i7, .cells 49 (encBlk f.blocks[k]))]) (fun u => True) ?_ (fun _ _ h => h) ?_
         ·refine zRg<|z8 (zc jk Z Zx (by decide) Z Z)<|z8 (zj (c := .int _ _) Y8 Z ⟨_, .t1⟩ Z)<|z8 (zc jk Z Zx (by decide) Z Z)<|z8 (zj (c := .int _ _) Y8 Z ⟨_, .head⟩ Z)<|zVGvneqI Z Z<|zVzMb Z<|zo (s := 153) Z (fun c8=>?_) (fun c8=>?_)
          ·refine z7 Z Z c8<|z7 Z Z c8<|z7 Z Z c8<|z7 Z Z c8<|z7 Z Z c8<|zVzPt Z c8 Z<|zVzMb Z<|z7 Z Z Z<|z7 Z Z Z<|z7 Z Z Z<|z7 Z Z Z<|z7 Z Z Z<|zVzPt Z Z Z<|zVzMb Z<|z7 Z Z Z<|z7 Z Z Z<|z7 Z Z Z<|z7 Z Z Z<|z7 Z Z Z<|z7 Z Z Z<|zVzPt Z Z Z<|z6 ?_
           exact ⟨(), zR8, ⟨jb (by rw [inst_diff, Bool.not_not]; simp_all), trivial⟩, ⟨_, (.drop (.drop (.refl _))), rfl⟩, trivial⟩
          ·refine za Z Z c8<|z8 (zc jk Z jd (by decide) Z Z)<|za Z Z c8<|z8 (zj (c := .int _ _) jr Z ⟨_, .t1⟩ Z)<|za Z Z c8<|z8 (zc jk Z jd (by decide) Z Z)<|za Z Z c8<|z8 (zj (c := .int _ _) jr Z ⟨_, .head⟩ Z)<|za Z Z c8<|zVGvneqI Z Z<|zVzPf Z c8 Z<|zVzMb Z<|zo (s := 160) Z (fun c9=>?_) (fun c9=>?_)
           ·refine z7 Z Z c9<|z7 Z Z c9<|z7 Z Z c9<|z7 Z Z c9<|z7 Z Z c9<|zVzPt Z c9 Z<|zVzMb Z<|z7 Z Z Z<|z7 Z Z Z<|z7 Z Z Z<|z7 Z Z Z<|z7 Z Z Z<|z7 Z Z Z<|zVzPt Z Z Z<|z6 ?_
            exact ⟨(), zR8, ⟨jb (by rw [inst_diff, Bool.not_not]; simp_all), trivial⟩, ⟨_, (.drop (.drop (.refl _))), rfl⟩, trivial⟩
           ·refine za Z Z c9<|z8 (zc jk Z Yl (by decide) Z Z)<|za Z Z c9<|z8 (zj (c := .int _ _) X7 Z ⟨_, .t1⟩ Z)<|za Z Z c9<|z8 (zc jk Z Yl (by decide) Z Z)<|za Z Z c9<|z8 (zj (c := .int _ _) X7 Z ⟨_, .head⟩ Z)<|za Z Z c9<|zVGvneqI Z Z<|zVzPf Z c9 Z<|zVzMb Z<|zo (s := 167) Z (fun c10=>?_) (fun c10=>?_)
            ·refine z7 Z Z c10<|z7 Z Z c10<|z7 Z Z c10<|z7 Z Z c10<|z7 Z Z c10<|z7 Z Z c10<|zVzPt Z c10 Z<|z6 ?_
             exact ⟨(), zR8, ⟨jb (by rw [inst_diff, Bool.not_not]; simp_all), trivial⟩, ⟨_, (.drop (.drop (.refl _))), rfl⟩, trivial⟩
            ·refine za Z Z c10<|z8 (zc jk Z jn (by decide) Z Z)<|za Z Z c10<|z8 (zj (c := .fro _ _) jz Z ⟨_, .t1⟩ Z)<|za Z Z c10<|z8 (zc jk Z jn (by decide) Z Z)<|za Z Z c10<|z8 (zj (c := .fro _ _) jz Z ⟨_, .head⟩ Z)<|za Z Z c10<|zd (ints_spec _ _ (by assumption)) Z<|za Z Z c10<|zVGvnot Z<|zVzPf Z c10 Z<|z6 ?_
             exact ⟨(), zR8, ⟨jb (by rw [inst_diff, Bool.not_not]; simp_all), trivial⟩, ⟨_, (.drop (.drop (.refl _))), rfl⟩, trivial⟩
         ·rintro _ _
          refine zz Z (fun cp=>?_) (fun cp=>?_)
          ·refine zSr<|zVzAb Z<|z6<|ze<|zi (x := .bool _) Z ?_
           rw [qr (fun e => by subst e; simp at cp)]
          ·refine zf<|zRg<|zVzAd Z Z<|zVzMi Z<|z6 ?_
           exact ⟨m + 1, zR7, zR1, zLe, ⟨hj1, take_push hj1 hj2 hpre3 (by simpa using cp)⟩, by omega⟩
        ·have hinsts := take_done hbi (by omega) hpre3
         refine y2<|zRg<|zVzAd Z Z<|zVzMi Z<|z6 ?_
         exact ⟨k + 1, zR3, zR1, ⟨_, (.drop (.drop (.refl _))), rfl⟩, ⟨hi1, take_push hi1 hi2 hpre2 (blk_ext hbn hbt hphis hinsts)⟩, by omega⟩
    ·have hblocks := take_done hbl (by omega) hpre2
     refine y2<|zSr<|zVzAb Z<|z6<|ze<|zi (x := .bool _) Z ?_
     rw [qq (func_ext hvars hpar hblocks)]
end Go.Proofs.YtbkgklpihnfnjaaGreatDoor
namespace Go.Proofs.YtbkgklpihnfnjaaGreatDoor
open Go.Proofs.Tryz
open Go.Proofs Go.Lib Go.Shelf Go.RowKit
set_option maxRecDepth 20000
variable {E : World}
def wV (l : List PVar) : Nat := (l.map fun v => v.name.size).sum
def wP (l : List PPhi) : Nat := (l.map fun p => p.args.length + p.from_.length).sum
def wX (l : List PInst) : Nat := (l.map fun x => x.args.length).sum
def wB (b : PBlock) : Nat := b.name.size + 10 * (b.phis.length + b.insts.length) + wP b.phis + wX b.insts
def wBs (l : List PBlock) : Nat := (l.map wB).sum
theorem wV_succ {l : List PVar} {k : Nat} (h : k < l.length) : wV (l.take (k + 1)) = wV (l.take k) + l[k].name.size := by
 unfold wV; rw [qe h, qo, List.sum_append]; simp only [List.map_cons, List.map_nil, List.sum_cons, List.sum_nil, Nat.add_zero]
theorem wP_succ {l : List PPhi} {k : Nat} (h : k < l.length) : wP (l.take (k + 1)) = wP (l.take k) + (l[k].args.length + l[k].from_.length) := by
 unfold wP; rw [qe h, qo, List.sum_append]; simp only [List.map_cons, List.map_nil, List.sum_cons, List.sum_nil, Nat.add_zero]
theorem wX_succ {l : List PInst} {k : Nat} (h : k < l.length) : wX (l.take (k + 1)) = wX (l.take k) + l[k].args.length := by
 unfold wX; rw [qe h, qo, List.sum_append]; simp only [List.map_cons, List.map_nil, List.sum_cons, List.sum_nil, Nat.add_zero]
theorem wBs_succ {l : List PBlock} {k : Nat} (h : k < l.length) : wBs (l.take (k + 1)) = wBs (l.take k) + wB l[k] := by
 unfold wBs; rw [qe h, qo, List.sum_append]; simp only [List.map_cons, List.map_nil, List.sum_cons, List.sum_nil, Nat.add_zero]
def littleB (b : PBlock) : Prop := b.name.size ≤ 400 ∧ b.phis.length ≤ 400 ∧ b.insts.length ≤ 400 ∧ (∀ p ∈ b.phis, p.args.length ≤ 400 ∧ p.from_.length ≤ 400) ∧ ∀ x ∈ b.insts, x.args.length ≤ 400
def little (f : PFunc) : Prop := f.vars.length ≤ 100 ∧ f.blocks.length ≤ 40 ∧ f.params.length ≤ 20 ∧ (∀ v ∈ f.vars, v.name.size ≤ 400) ∧ (∀ b ∈ f.blocks, littleB b) ∧ (f.blocks ≠ [] → wV f.vars + wBs f.blocks ≤ 4000)
theorem little.small {f : PFunc} (h : little f) : small f := by
 obtain ⟨h1, h2, h3, h4, h5, _⟩ := h
 refine ⟨by omega, by omega, by omega, fun v hv => by have := h4 v hv; omega, fun b hb => ?_⟩
 obtain ⟨g1, g2, g3, g4, g5⟩ := h5 b hb
 exact ⟨by omega, by omega, by omega, fun p hp => by have := g4 p hp; omega, fun x hx => by have := g5 x hx; omega⟩
def wL {α : Type} (l : List α) : Prop := l.length ≤ 9223372036854775807
def wPhi (p : PPhi) : Prop := wL p.args ∧ wL p.from_
def wBlk (b : PBlock) : Prop := wL b.phis ∧ wL b.insts ∧ (∀ p ∈ b.phis, wPhi p) ∧ (∀ x ∈ b.insts, wL x.args)
def wFunc (f : PFunc) : Prop := wL f.vars ∧ wL f.params ∧ wL f.blocks ∧ ∀ b ∈ f.blocks, wBlk b
theorem wL.lt {α : Type} {l : List α} (h : wL l) : l.length ≤ 9223372036854775807 := h
def few1 (f : PFunc) : Bool := decide ((100 : Int) < f.vars.length) || (decide ((40 : Int) < f.blocks.length) || decide ((20 : Int) < f.params.length))
def few2 (b : PBlock) : Bool := decide ((400 : Int) < b.name.size) || (decide ((400 : Int) < b.phis.length) || decide ((400 : Int) < b.insts.length))
end Go.Proofs.YtbkgklpihnfnjaaGreatDoor
namespace Go.Proofs.YtbkgklpihnfnjaaGreatDoor
open Go.Proofs.Tryz
open Go.Proofs Go.Lib Go.Shelf Go.RowKit
set_option maxRecDepth 20000
variable {E : World}
def bname (f : PFunc) (v : Int) : ByteArray := (f.blocks[v.toNat]?.map (·.name)).getD ⟨#[]⟩
theorem hasB_get {f : PFunc} {v : Int} (h : hasB f v = true) : ∃ (h : v.toNat < f.blocks.length), f.blocks[v.toNat]? = some f.blocks[v.toNat] ∧ 0 ≤ v ∧ bname f v = f.blocks[v.toNat].name := by
 have h2 : 0 ≤ v ∧ v < f.blocks.length := by simpa [hasB] using h
 have h3 : v.toNat < f.blocks.length := by omega
 exact ⟨h3, qd h3, h2.1, by unfold bname; rw [qd h3]; rfl⟩
def spc : ByteArray := ⟨#[32]⟩
def refWord (f : PFunc) (x : PInst) : ByteArray := if (kRow x.op).2.2 = ⟨#[]⟩ then (kRow x.op).1 else (vname f x.dst ++ ⟨#[32, 61, 32]⟩) ++ (kRow x.op).1
def refArgs (f : PFunc) (x : PInst) (k : Nat) : ByteArray := (x.args.take k).foldl (fun s a => (s ++ spc) ++ vname f a) (refWord f x)
def refLine (f : PFunc) (x : PInst) : ByteArray := if wordB x then (refArgs f x x.args.length ++ spc) ++ strL (itoa x.num) else refArgs f x x.args.length
theorem refArgs_succ (f : PFunc) (x : PInst) {k : Nat} (h : k < x.args.length) : refArgs f x (k + 1) = (refArgs f x k ++ spc) ++ vname f x.args[k] := by
 unfold refArgs; rw [qe h, List.foldl_append]; rfl
theorem app_size (a b : ByteArray) : (a ++ b).size = a.size + b.size := ByteArray.size_append
theorem refWord_size {f : PFunc} (hnm : ∀ v ∈ f.vars, v.name.size ≤ 1000) (x : PInst) : (refWord f x).size ≤ 1009 := by
 have := word_len x.op
 have h2 := vname_len hnm x.dst
 unfold refWord; split
 ·omega
 ·rw [app_size, app_size]; show _ + 3 + _ ≤ _; omega
theorem refArgs_size {f : PFunc} (hnm : ∀ v ∈ f.vars, v.name.size ≤ 1000) (x : PInst) : ∀ k, k ≤ x.args.length → (refArgs f x k).size ≤ 1009 + 1001 * k
 | 0, _ => by simpa [refArgs] using refWord_size hnm x
 | k + 1, h => by
  rw [refArgs_succ f x (by omega), app_size, app_size]
  have := refArgs_size hnm x k (by omega)
  have h2 := vname_len hnm x.args[k]
  show _ + 1 + _ ≤ _; omega
def termLine (f : PFunc) (t : PTerm) : ByteArray := if termOK f t then (if t.kind = 0 then (⟨#[106, 117, 109, 112, 32]⟩ : ByteArray) ++ bname f t.to0 else if t.kind = 1 then ((((⟨#[105, 102, 32]⟩ : ByteArray) ++ vname f t.var) ++ spc) ++ bname f t.to0 ++ spc) ++ bname f t.to1 else (⟨#[114, 101, 116, 32]⟩ : ByteArray) ++ vname f t.var) else ⟨#[]⟩
theorem termOK_0 {f : PFunc} {t : PTerm} (h : termOK f t = true) (hk : t.kind = 0) : hasB f t.to0 = true := by unfold termOK at h; rw [if_pos hk] at h; simp at h; exact h.1.1
theorem termOK_1 {f : PFunc} {t : PTerm} (h : termOK f t = true) (hk : t.kind = 1) : hasV f t.var = true ∧ hasB f t.to0 = true ∧ hasB f t.to1 = true := by unfold termOK at h; rw [if_neg (by omega), if_pos hk] at h; simp at h; exact ⟨h.1.1, h.1.2, h.2⟩
theorem termOK_2 {f : PFunc} {t : PTerm} (h : termOK f t = true) (hk : ¬ t.kind = 0) (hk1 : ¬ t.kind = 1) : hasV f t.var = true := by unfold termOK at h; rw [if_neg hk, if_neg hk1] at h; split at h; simp at h; exact h.1; cases h
theorem Term_spec (f : PFunc) (t : PTerm) (hf : small f) : AFun prog E 48 [.agg (encF f), .agg (encTerm t)] (.str (termLine f t)) := by
 obtain ⟨hf1, hf2, hf3, hf4, hf5⟩ := hf
 refine zk func48 Z (by decide) Z<|zSr<|y6 (cs := _) Z Z Z<|y6 (cs := _) Z Z Z<|z8 (y8 (v := .str _) Z)<|z6<|zb<|zSr<|zVGvloadWF ju jj Z Z<|zVGvloadWF Ym Z4 Z Z<|zd (term_spec _ _) Z<|zVGvnot Z<|z6<|zz Z (fun cok=>?_) (fun cok=>?_)
 ·have hok : termOK f t = false := by simpa using cok
  refine zSr<|z8 (y8 (v := .str _) Z)<|z6<|ze<|zi (x := .str _) Z ?_
  unfold termLine; rw [hok]; rfl
 ·have hok : termOK f t = true := by simpa using cok
  refine zf<|zb<|zSr<|zVzFF je Z Zl Z Z<|zVzLi Y0 Z<|z6<|zg<|zSr<|zVGveqlI Z Z<|zVzAb Z<|z6<|zr Z (fun c0=>?_) (fun c0=>?_)
  ·obtain ⟨hlt, hg, hnn, hvn⟩ := hasB_get (termOK_0 hok c0)
   have hv1 := (hf5 _ (qh hlt)).1
   refine zSr<|zVzFF jc Z Z2 Z Z<|zVzLf Ze Z<|zVzFF je Z Z8 Z Z<|z8 (yo (j := 0) jy jd Z Z Z (by decide) Z)<|zVzLi jr Z<|z8 (zIM t.to0.toNat jo jt Z Z (qt hnn).symm hg)<|zVzFF ja Z jx Z Z<|z8 (ya (c := .str _) Z5 Z)<|z8 (Gv.addT Z Z (by show 5 + _ ≤ _; omega))<|z8 (y8 (v := .str _) Z)<|z6<|ze<|zi (x := .str _) Z ?_
   exact congrArg AV.str (by unfold termLine; rw [if_pos hok, if_pos c0, hvn])
  ·refine zSr<|zVGveqlI Z Z<|zVzAb Z<|z6<|zr Z (fun c1=>?_) (fun c1=>?_)
   ·obtain ⟨h1, h2, h3⟩ := termOK_1 hok c1
    obtain ⟨hlt, hg, hnn, hvn⟩ := has_get h1
    obtain ⟨hlt2, hg2, hnn2, hvn2⟩ := hasB_get h2
    obtain ⟨hlt3, hg3, hnn3, hvn3⟩ := hasB_get h3
    have hv1 := hf4 _ (qh hlt)
    have hv2 := (hf5 _ (qh hlt2)).1
    have hv3 := (hf5 _ (qh hlt3)).1
    refine zb<|zw (fun j => false) (by kernel_rfl) Z (zu (.rest _))<|zTk 0 Z (zFF jc Z Z9 Z Z)<|zTk 1 Z (zLf Zn Z)<|zTk 2 Z (zFF je Z jd Z Z)<|zTk 3 Z (zLi jr Z)<|zTk 4 Z (zIM t.var.toNat js Zd Z Z (qt hnn).symm hg)<|zTk 5 Z (zFF Zf Z jx Z Z)<|zTk 6 Z (ya (c := .str _) Z5 Z)<|zTk 7 Z (Gv.addT Z Z (by (try simp only [app_size]); have e1 : (⟨#[105, 102, 32]⟩ : ByteArray).size = 3 := rfl; have e2 : (⟨#[32]⟩ : ByteArray).size = 1 := rfl; omega))<|zTk 8 Z (Gv.addT Z Z (by (try simp only [app_size]); have e1 : (⟨#[105, 102, 32]⟩ : ByteArray).size = 3 := rfl; have e2 : (⟨#[32]⟩ : ByteArray).size = 1 := rfl; omega))<|zTk 9 Z (zFF jc Z Z2 Z Z)<|zTk 10 Z (zLf Ze Z)<|zTk 11 Z (zFF je Z Z8 Z Z)<|zTk 12 Z (yo (j := 0) jy jd Z Z Z (by decide) Z)<|zTk 13 Z (zLi jr Z)<|zTk 14 Z (zIM t.to0.toNat jo jt Z Z (qt hnn2).symm hg2)<|zTk 15 Z (zFF ja Z jx Z Z)<|zTk 16 Z (ya (c := .str _) Z5 Z)<|zTk 17 Z (Gv.addT Z Z (by (try simp only [app_size]); have e1 : (⟨#[105, 102, 32]⟩ : ByteArray).size = 3 := rfl; have e2 : (⟨#[32]⟩ : ByteArray).size = 1 := rfl; omega))<|zTk 18 Z (Gv.addT Z Z (by (try simp only [app_size]); have e1 : (⟨#[105, 102, 32]⟩ : ByteArray).size = 3 := rfl; have e2 : (⟨#[32]⟩ : ByteArray).size = 1 := rfl; omega))<|zTk 19 Z (zFF jc Z Z2 Z Z)<|zTk 20 Z (zLf Ze Z)<|zTk 21 Z (zFF je Z Z8 Z Z)<|zTk 22 Z (yo (j := 1) jy jd Z Z Z (by decide) Z)<|zTk 23 Z (zLi jr Z)<|zTk 24 Z (zIM t.to1.toNat jo jt Z Z (qt hnn3).symm hg3)<|zTk 25 Z (zFF ja Z jx Z Z)<|zTk 26 Z (ya (c := .str _) Z5 Z)<|zTk 27 Z (Gv.addT Z Z (by (try simp only [app_size]); have e1 : (⟨#[105, 102, 32]⟩ : ByteArray).size = 3 := rfl; have e2 : (⟨#[32]⟩ : ByteArray).size = 1 := rfl; omega))<|zTk 28 Z (y8 (v := .str _) Z)<|zDn<|ze<|zi (x := .str _) Z ?_
    exact congrArg AV.str (by unfold termLine; rw [if_pos hok, if_neg c0, if_pos c1, hvn, hvn2, hvn3]; rfl)
   ·obtain ⟨hlt, hg, hnn, hvn⟩ := has_get (termOK_2 hok c0 c1)
    have hv1 := hf4 _ (qh hlt)
    refine zf<|zSr<|zVzFF jc Z Z9 Z Z<|zVzLf Zn Z<|zVzFF je Z jd Z Z<|zVzLi jr Z<|z8 (zIM t.var.toNat js Zd Z Z (qt hnn).symm hg)<|zVzFF Zf Z jx Z Z<|z8 (ya (c := .str _) Z5 Z)<|z8 (Gv.addT Z Z (by show 4 + _ ≤ _; omega))<|z8 (y8 (v := .str _) Z)<|z6<|ze<|zi (x := .str _) Z ?_
    exact congrArg AV.str (by unfold termLine; rw [if_pos hok, if_neg c0, if_neg c1, hvn])
end Go.Proofs.YtbkgklpihnfnjaaGreatDoor
namespace Go.Proofs.YtbkgklpihnfnjaaGreatDoor
open Go.Proofs.Tryz
open Go.Proofs Go.Lib Go.Shelf Go.RowKit
set_option maxRecDepth 20000
variable {E : World}
theorem joinTail_app (sep a : List UInt8) (r : List (List UInt8)) : Lib.joinTail sep (r ++ [a]) = Lib.joinTail sep r ++ sep ++ a := by
 induction r with
 | nil => simp [Lib.joinTail]
 | cons x r ih =>
  have h3 : ∀ r, Lib.joinTail sep (x :: r) = sep ++ x ++ Lib.joinTail sep r := fun r => rfl
  rw [List.cons_append, h3, h3, ih]; simp
theorem joinS_app (w : ByteArray) (ws : List ByteArray) (a : ByteArray) : joinS ((w :: ws) ++ [a]) ⟨#[32]⟩ = (joinS (w :: ws) ⟨#[32]⟩ ++ spc) ++ a := by
 have hs : spc = strL [32] := rfl
 have ha : a = strL a.data.toList := by unfold strL; simp
 unfold joinS
 show strL _ = (strL _ ++ spc) ++ a
 rw [hs, ha, strL_app, strL_app]
 congr 1
 simp only [List.cons_append, List.map_cons, qo, List.map_nil, Lib.join_cons]
 rw [joinTail_app]
 simp [strL]
theorem joinS_one (w : ByteArray) : joinS [w] ⟨#[32]⟩ = w := by
 unfold joinS; simp [Lib.join_cons, Lib.joinTail]
theorem rows_27 : ∀ r ∈ kindT, r.1 ≠ ⟨#[]⟩ := by decide
theorem word_ne {op : Int} (h : 0 ≤ op ∧ op ≤ 26) : (kRow op).1 ≠ ⟨#[]⟩ := by
 have hm : kRow op ∈ kindT := by
  unfold kRow
  rw [if_pos h.1, qd (show _ < 27 by omega)]
  exact qh _
 exact rows_27 _ hm
theorem word_num : ∀ j : Nat, j < 27 → isNum (j : Int) = (decide ((kRow (j : Int)).1 = ⟨#[99, 111, 110, 115, 116]⟩) || decide ((kRow (j : Int)).1 = ⟨#[112, 105]⟩)) := by decide
theorem wordB_num {x : PInst} (h : 0 ≤ x.op ∧ x.op ≤ 26) : wordB x = isNum x.op := by
 have := word_num x.op.toNat (by omega)
 rw [qt h.1] at this
 unfold wordB; exact this.symm
theorem takes_len (op : Int) : (takesL op).length = (kRow op).2.1.size := by unfold takesL; rw [qk]; exact Array.length_toList
theorem bytes_nil (b : ByteArray) : b.data.toList.isEmpty = decide (b = ⟨#[]⟩) := by
 obtain ⟨⟨l⟩⟩ := b
 cases l <;> simp
theorem makesB_eq (op : Int) : makesB op = !decide ((kRow op).2.2 = ⟨#[]⟩) := by unfold makesB; rw [bytes_nil]
theorem kRow_none {op : Int} (h : ¬ (0 ≤ op ∧ op ≤ 26)) : kRow op = (⟨#[]⟩, ⟨#[]⟩, ⟨#[]⟩) := kRow_out (by unfold isOp; simp; omega)
theorem instOK_iff (f : PFunc) (x : PInst) : instOK f x = true ↔ InstP f x := by
 by_cases h : 0 ≤ x.op ∧ x.op ≤ 26
 ·have hw := word_ne h
  have hn := wordB_num h
  unfold instOK inst1 inst2 InstP bad2
  rw [takes_len, makesB_eq, hn]
  by_cases h1 : x.args.length = (kRow x.op).2.1.size <;> by_cases h2 : (kRow x.op).2.2 = ⟨#[]⟩ <;> by_cases h3 : x.dst = -1 <;> by_cases h4 : x.num = 0 <;> by_cases h5 : x.args.all (hasV f) = true <;> simp_all [Int.ofNat_inj] <;> (try (unfold hasV; simp)) <;> (try grind)
 ·constructor
  ·intro h2
   have := kRow_none h
   unfold instOK inst1 at h2
   rw [this] at h2; simp at h2
  ·intro h2; exact absurd ⟨h2.1, h2.2.1⟩ h
theorem line_eq {f : PFunc} {x : PInst} (h : InstP f x) : instLine f x = refLine f x := by
 have hop : 0 ≤ x.op ∧ x.op ≤ 26 := ⟨h.1, h.2.1⟩
 have hok := (instOK_iff f x).2 h
 unfold instLine
 rw [if_pos hok]
 have hb := h.2.2.1
 have hd : (kRow x.op).2.2 = ⟨#[]⟩ ↔ x.dst = -1 := by
  unfold bad2 at hb
  simp at hb
  have := hb.2.1
  by_cases h1 : (kRow x.op).2.2 = ⟨#[]⟩ <;> by_cases h2 : x.dst = -1 <;> simp_all
 have hdv : x.dst ≠ -1 → 0 ≤ x.dst := by
  intro h1
  unfold bad2 at hb
  simp at hb
  have := hb.2.2.1 h1
  unfold hasV at this; simp at this; exact this.1
 have h1 : ∃ w ws, words1 f x ++ [(kRow x.op).1] = w :: ws ∧ joinS (w :: ws) ⟨#[32]⟩ = refWord f x := by
  unfold words1 refWord
  by_cases h1 : x.dst = -1
  ·rw [if_neg (by omega), if_pos (hd.2 h1)]; exact ⟨_, [], rfl, joinS_one _⟩
  ·rw [if_pos (hdv h1), if_neg (fun e => h1 (hd.1 e))]
   refine ⟨vname f x.dst, [⟨#[61]⟩, (kRow x.op).1], Z, ?_⟩
   have e1 := joinS_app (vname f x.dst) [⟨#[61]⟩] (kRow x.op).1
   have e2 := joinS_app (vname f x.dst) [] ⟨#[61]⟩
   simp only [List.cons_append, List.nil_append] at e1 e2
   rw [e1, e2, joinS_one]
   have e3 : spc = strL [32] := rfl
   have e4 : (⟨#[32, 61, 32]⟩ : ByteArray) = strL [32, 61, 32] := rfl
   have e5 : (⟨#[61]⟩ : ByteArray) = strL [61] := rfl
   have ha : vname f x.dst = strL (vname f x.dst).data.toList := by unfold strL; simp
   rw [e3, e4, e5, ha, strL_app, strL_app, strL_app, strL_app]; simp
 have h2 : ∀ k, k ≤ x.args.length → ∃ w ws, words2 f x k = w :: ws ∧ joinS (w :: ws) ⟨#[32]⟩ = refArgs f x k := by
  intro k
  induction k with
  | zero => intro _; obtain ⟨w, ws, e1, e2⟩ := h1; exact ⟨w, ws, by unfold words2; simpa using e1, by rw [e2]; rfl⟩
  | succ k ih =>
   intro hk
   obtain ⟨w, ws, e1, e2⟩ := ih (by omega)
   refine ⟨w, ws ++ [vname f x.args[k]], by rw [words2_succ f x hk, e1]; rfl, ?_⟩
   rw [← List.cons_append, joinS_app, e2, refArgs_succ f x hk]
 obtain ⟨w, ws, e1, e2⟩ := h2 x.args.length (Nat.le_refl _)
 unfold wordsOf refLine
 rw [e1, wordB_num hop]
 by_cases hn : isNum x.op = true
 ·rw [if_pos hn, if_pos hn, joinS_app, e2]; rfl
 ·rw [if_neg hn, if_neg hn, List.append_nil, e2]
def only (f : PFunc) (x : PInst) : PFunc := { f with blocks := [⟨⟨#[111, 110, 108, 121]⟩, [], [x], ⟨0, 0, 0, 0⟩⟩] }
def ended (f : PFunc) (b0 : PBlock) (bs : List PBlock) (t : PTerm) : PFunc := { f with blocks := { b0 with term := t } :: bs }
end Go.Proofs.YtbkgklpihnfnjaaGreatDoor
namespace Go.Proofs.YtbkgklpihnfnjaaGreatDoor
open Go.Proofs.Tryz
open Go.Proofs Go.Lib Go.Shelf Go.RowKit
set_option maxRecDepth 20000
variable {E : World}
def letterC (c : Int) : Bool := isLetterU c && !decide (c = 65533)
def digitC (c : Int) : Bool := decide (48 ≤ c) && decide (c ≤ 57)
def innerC (c : Int) : Bool := letterC c || (digitC c || (decide (c = 46) || decide (c = 95)))
theorem zletter_spec (c : Int) (h1 : -2147483648 ≤ c) (h2 : c ≤ 2147483647) (hL : Letters E) : AFun prog E 138 [.int .i32 c] (.bool (letterC c)) := by
 refine zk func138 Z (by decide) Z<|zSr<|zVzAb Z<|z6<|zSr<|zVzMi Z<|zd (letter_spec c h1 h2 hL) Z<|zVzMb Z<|zo (s := 5) Z (fun c1=>?_) (fun c1=>?_)
 ·refine za Z Z c1<|zVzMi Z<|za Z Z c1<|zVGvneqI Z Z<|zVzPt Z c1 Z<|zVzAb Z<|z6<|ze<|zi (x := .bool _) Z ?_
  exact jb (by simp_all [letterC])
 ·refine z7 Z Z c1<|z7 Z Z c1<|zVzPf Z c1 Z<|zVzAb Z<|z6<|ze<|zi (x := .bool _) Z ?_
  exact jb (by simp_all [letterC])
theorem zdigit_spec (c : Int) : AFun prog E 183 [.int .i32 c] (.bool (digitC c)) := by
 refine zk func183 Z (by decide) Z<|zSr<|zVzAb Z<|z6<|zSr<|zVzMi Z<|z8 (qc Z Z)<|zVzMb Z<|zo (s := 5) Z (fun c2=>?_) (fun c2=>?_)
 ·refine za Z Z c2<|zVzMi Z<|za Z Z c2<|z8 (Gv.leq Z Z)<|zVzPt Z c2 Z<|zVzAb Z<|z6<|ze<|zi (x := .bool _) Z ?_
  exact jb (by simp_all [digitC] <;> (intros; omega))
 ·refine z7 Z Z c2<|z7 Z Z c2<|zVzPf Z c2 Z<|zVzAb Z<|z6<|ze<|zi (x := .bool _) Z ?_
  exact jb (by simp_all [digitC] <;> (intros; omega))
theorem zinner_spec (c : Int) (h1 : -2147483648 ≤ c) (h2 : c ≤ 2147483647) (hL : Letters E) : AFun prog E 139 [.int .i32 c] (.bool (innerC c)) := by
 refine zk func139 Z (by decide) Z<|zSr<|zVzAb Z<|z6<|zSr<|zVzMi Z<|zd (zletter_spec c h1 h2 hL) Z<|zVzMb Z<|zo (s := 5) Z (fun c3=>?_) (fun c3=>?_)
 ·refine z7 Z Z c3<|z7 Z Z c3<|zVzPt Z c3 Z<|zVzMb Z<|z7 Z Z Z<|z7 Z Z Z<|zVzPt Z Z Z<|zVzMb Z<|z7 Z Z Z<|z7 Z Z Z<|zVzPt Z Z Z<|zVzAb Z<|z6<|ze<|zi (x := .bool _) Z ?_
  exact jb (by simp_all [innerC])
 ·refine za Z Z c3<|zVzMi Z<|za Z Z c3<|zd (zdigit_spec _) Z<|zVzPf Z c3 Z<|zVzMb Z<|zo (s := 9) Z (fun c4=>?_) (fun c4=>?_)
  ·refine z7 Z Z c4<|z7 Z Z c4<|zVzPt Z c4 Z<|zVzMb Z<|z7 Z Z Z<|z7 Z Z Z<|zVzPt Z Z Z<|zVzAb Z<|z6<|ze<|zi (x := .bool _) Z ?_
   exact jb (by simp_all [innerC])
  ·refine za Z Z c4<|zVzMi Z<|za Z Z c4<|zVGveqlI Z Z<|zVzPf Z c4 Z<|zVzMb Z<|zo (s := 13) Z (fun c5=>?_) (fun c5=>?_)
   ·refine z7 Z Z c5<|z7 Z Z c5<|zVzPt Z c5 Z<|zVzAb Z<|z6<|ze<|zi (x := .bool _) Z ?_
    exact jb (by simp_all [innerC])
   ·refine za Z Z c5<|zVzMi Z<|za Z Z c5<|zVGveqlI Z Z<|zVzPf Z c5 Z<|zVzAb Z<|z6<|ze<|zi (x := .bool _) Z ?_
    exact jb (by simp_all [innerC])
def runesFrom (s : ByteArray) (p : Nat) : List Int := if h : p < s.size then ((Utf8.decode s p).1 : Int) :: runesFrom s (p + (Utf8.decode s p).2) else []
termination_by s.size - p
decreasing_by have := (decode_ok s p).1; omega
theorem runesFrom_lt {s : ByteArray} {p : Nat} (h : p < s.size) : runesFrom s p = ((Utf8.decode s p).1 : Int) :: runesFrom s (p + (Utf8.decode s p).2) := by rw [runesFrom, dif_pos h]
theorem runesFrom_ge {s : ByteArray} {p : Nat} (h : ¬ p < s.size) : runesFrom s p = [] := by rw [runesFrom, dif_neg h]
theorem runesFrom_len (s : ByteArray) : ∀ k p, s.size - p ≤ k → (runesFrom s p).length ≤ k := by
 intro k
 induction k with
 | zero => intro p h; rw [runesFrom_ge (by omega)]; simp
 | succ k ih =>
  intro p h
  by_cases hp : p < s.size
  ·rw [runesFrom_lt hp]
   have := (decode_ok s p).1
   have := ih (p + (Utf8.decode s p).2) (by omega)
   simp; omega
  ·rw [runesFrom_ge hp]; simp
theorem runes_spec (s : ByteArray) (hs : s.size ≤ 140737488355328) : AFun prog E 140 [.str s] (.int .i64 (runesFrom s 0).length) := by
 have h0 := runesFrom_len s s.size 0 (by omega)
 refine zk func140 Z (by decide) Z<|zSr<|zVzAi Z<|z6<|zSr<|zVzAi Z<|z6<|zb<|zSr<|z8 (y9 (v := .str _) Z)<|AOps.rangeT Z3 Z<|fun i5 => z6<|zg<|y3 (γ := Nat × Nat) [5] (fun g => [(3, .int .i64 g.2)]) (fun g => [(i5, .iter s g.1)]) (fun g => g.2 + (runesFrom s g.1).length = (runesFrom s 0).length) (fun g => s.size - g.1) (0, 0) zR1 zLe (by simp) ?_
 rintro ⟨p, n⟩ hp
 try dsimp only at *
 by_cases hlt : p < s.size
 ·have hd := (decode_ok s p).1
  rw [runesFrom_lt hlt] at hp
  simp only [List.length_cons] at hp
  refine zSr<|AOps.nextT Z .head hlt<|z8 (zXb Z Z)<|z6<|zb<|yh Z Z<|zf<|zg<|zRg<|zVzMi Z<|zVzAd Z Z<|zVzAi Z<|z6 ?_
  exact ⟨(p + (Utf8.decode s p).2, n + 1), zR1, zR1, zLe, by dsimp only; omega, by dsimp only; omega⟩
 ·rw [runesFrom_ge hlt] at hp
  simp only [List.length_nil] at hp
  refine zSr<|AOps.nextTover Z .head hlt<|z8 (zXb Z Z)<|z6<|zb<|yc Z Z<|y2<|zSr<|zVzMi Z<|zVzAi Z<|z6<|ze<|zi (x := .int _ _) Z ?_
  exact congrArg (AV.int .i64) (by omega)
def nmGo (s : ByteArray) (p : Nat) : Bool := if h : p < s.size then (if (decide (p = 0) && !letterC ((Utf8.decode s p).1 : Int)) || !innerC ((Utf8.decode s p).1 : Int) then false else nmGo s (p + (Utf8.decode s p).2)) else (decide (¬ s = ⟨#[]⟩) && decide (((runesFrom s 0).length : Int) ≤ 16))
termination_by s.size - p
decreasing_by have := (decode_ok s p).1; omega
def scanName (s : ByteArray) : Bool := nmGo s 0
theorem zname_spec (s : ByteArray) (hs : s.size ≤ 140737488355328) (hL : Letters E) : AFun prog E 97 [.str s] (.bool (scanName s)) := by
 refine zk func97 Z (by decide) Z<|zSr<|zVzAb Z<|z6<|zb<|zSr<|z8 (y9 (v := .str _) Z)<|AOps.rangeT Z3 Z<|fun i6 => z6<|zg<|y3 (γ := Nat) [0, 6] (fun p => []) (fun p => [(i6, .iter s p)]) (fun p => nmGo s p = scanName s) (fun p => s.size - p) 0 trivial zLe (Z) ?_
 rintro p hp
 by_cases hlt : p < s.size
 ·obtain ⟨hd1, hd2⟩ := decode_ok s p
  have hstep := hp
  rw [nmGo, dif_pos hlt] at hstep
  refine zSr<|AOps.nextT Z .head hlt<|z8 (zXb Z Z)<|z6<|zb<|yh Z Z<|zf<|zg<|zSr<|z8 (zXi Z Z)<|z8 (zXi Z Z)<|zVzAi Z<|zVzAi Z<|z6<|zSr<|zVzMi Z<|zVGveqlI Z Z<|zVzMb Z<|zo (s := 13) Z (fun c6=>?_) (fun c6=>?_)
  ·refine za Z Z c6<|zVzMi Z<|za Z Z c6<|zd (zletter_spec _ (by omega) (by omega) hL) Z<|za Z Z c6<|zVGvnot Z<|zVzPt Z c6 Z<|zVzMb Z<|zo (s := 18) Z (fun c7=>?_) (fun c7=>?_)
   ·refine z7 Z Z c7<|z7 Z Z c7<|z7 Z Z c7<|zVzPt Z c7 Z<|z6<|yh Z Z<|zSr<|zVzAb Z<|z6<|ze<|zi (x := .bool _) Z ?_
    rw [if_pos (by simp_all <;> omega)] at hstep; exact jb hstep
   ·refine za Z Z c7<|zVzMi Z<|za Z Z c7<|zd (zinner_spec _ (by omega) (by omega) hL) Z<|za Z Z c7<|zVGvnot Z<|zVzPf Z c7 Z<|z6<|zz Z (fun c8=>?_) (fun c8=>?_)
    ·refine zSr<|zVzAb Z<|z6<|ze<|zi (x := .bool _) Z ?_
     rw [if_pos (by simp_all <;> omega)] at hstep; exact jb hstep
    ·refine zf ?_
     exact ⟨p + (Utf8.decode s p).2, zR2, trivial, zLe, by rw [if_neg (by simp_all <;> omega)] at hstep; exact hstep, by omega⟩
  ·refine z7 Z Z c6<|z7 Z Z c6<|z7 Z Z c6<|zVzPf Z c6 Z<|zVzMb Z<|za Z Z Z<|zVzMi Z<|za Z Z Z<|zd (zinner_spec _ (by omega) (by omega) hL) Z<|za Z Z Z<|zVGvnot Z<|zVzPf Z Z Z<|z6<|zz Z (fun c9=>?_) (fun c9=>?_)
   ·refine zSr<|zVzAb Z<|z6<|ze<|zi (x := .bool _) Z ?_
    rw [if_pos (by simp_all <;> omega)] at hstep; exact jb hstep
   ·refine zf ?_
    exact ⟨p + (Utf8.decode s p).2, zR2, trivial, zLe, by rw [if_neg (by simp_all <;> omega)] at hstep; exact hstep, by omega⟩
 ·rw [nmGo, dif_neg hlt] at hp
  refine zSr<|AOps.nextTover Z .head hlt<|z8 (zXb Z Z)<|z6<|zb<|yc Z Z<|y2<|zSr<|z8 (y9 (v := .str _) Z)<|z8 (Gv.neqT Z Z)<|zVzMb Z<|zo (s := 25) Z (fun c10=>?_) (fun c10=>?_)
  ·refine za Z Z c10<|z8 (y9 (v := .str _) Z)<|za Z Z c10<|zd (runes_spec _ (by assumption)) Z<|za Z Z c10<|z8 (Gv.leq Z Z)<|zVzPt Z c10 Z<|zVzAb Z<|z6<|ze<|zi (x := .bool _) Z ?_
   rw [← hp]; exact jb (by simp_all <;> (try omega))
  ·refine z7 Z Z c10<|z7 Z Z c10<|z7 Z Z c10<|zVzPf Z c10 Z<|zVzAb Z<|z6<|ze<|zi (x := .bool _) Z ?_
   rw [← hp]; exact jb (by simp_all <;> (try omega))
end Go.Proofs.YtbkgklpihnfnjaaGreatDoor
