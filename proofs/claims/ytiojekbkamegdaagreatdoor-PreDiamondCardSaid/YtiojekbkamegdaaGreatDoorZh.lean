/- What the printer holds for shaped. No conditions but bounds. -/
import Derived.Test.YtiojekbkamegdaaGreatDoorZg
import Derived.Test.YtiojekbkamegdaaGreatDoorZc
import Derived.Test.YtiojekbkamegdaaGreatDoorZf
import Derived.Lib.MapLaws
set_option linter.unusedVariables false
set_option linter.unusedSimpArgs false
set_option linter.unusedSectionVars false
namespace Go.Proofs.YtiojekbkamegdaaGreatDoor
open Go.Proofs.Tryz
open Go.Proofs Go.Lib Go.Shelf Go.RowKit
theorem pl26 : Places prog 26 #[(0, 1), (1, 1), (2, 1)] [.raw (.slice none 0 0), .raw (.slice none 0 0), .raw (.slice none 0 0)] := ⟨_, _, underlying26, zeroValue26, fun w => by kernel_rfl, rfl⟩
theorem pl58 : Places prog 58 #[(0, 1), (1, 1), (2, 1), (3, 4)] [.str ⟨#[]⟩, .raw (.slice none 0 0), .raw (.slice none 0 0), .int .i64 0, .int .i64 0, .int .i64 0, .int .i64 0] := ⟨_, _, underlying58, zeroValue58, fun w => by kernel_rfl, rfl⟩
theorem pl81 : Places prog 81 #[(0, 1), (1, 1), (2, 1)] [.int .i64 0, .raw (.slice none 0 0), .raw (.slice none 0 0)] := ⟨_, _, underlying81, zeroValue81, fun w => by kernel_rfl, rfl⟩
theorem ps51_1 : PlacesS prog 51 81 1 3 [.int .i64 0, .raw (.slice none 0 0), .raw (.slice none 0 0)] := ⟨_, underlying51, sizeOf81, zeroValue81, by decide, by decide, by kernel_rfl⟩
theorem ps52_1 : PlacesS prog 52 61 1 4 [.int .i64 0, .int .i64 0, .raw (.slice none 0 0), .int .i64 0] := ⟨_, underlying52, sizeOf61, zeroValue61, by decide, by decide, by kernel_rfl⟩
theorem ps24_1 : PlacesS prog 24 58 1 7 [.str ⟨#[]⟩, .raw (.slice none 0 0), .raw (.slice none 0 0), .int .i64 0, .int .i64 0, .int .i64 0, .int .i64 0] := ⟨_, underlying24, sizeOf58, zeroValue58, by decide, by decide, by kernel_rfl⟩
set_option maxRecDepth 20000
variable {E : World}
def smallBlk (b : PBlock) : Prop := b.name.size ≤ 1000 ∧ b.phis.length ≤ 1000 ∧ b.insts.length ≤ 1000 ∧ (∀ p ∈ b.phis, p.args.length ≤ 1000 ∧ p.from_.length ≤ 1000) ∧ ∀ x ∈ b.insts, x.args.length ≤ 1000
def small (f : PFunc) : Prop := f.vars.length ≤ 1000 ∧ f.params.length ≤ 1000 ∧ f.blocks.length ≤ 1000 ∧ (∀ v ∈ f.vars, v.name.size ≤ 1000) ∧ ∀ b ∈ f.blocks, smallBlk b
theorem small.ok {f : PFunc} (h : small f) : okFunc f := by
 obtain ⟨h1, h2, h3, h4, h5⟩ := h
 refine ⟨by unfold okL; omega, by unfold okL; omega, by unfold okL; omega, fun b hb => ?_⟩
 obtain ⟨g1, g2, g3, g4, g5⟩ := h5 b hb
 exact ⟨by unfold okL; omega, by unfold okL; omega, fun p hp => ⟨by have := g4 p hp; unfold okL; omega, by have := g4 p hp; unfold okL; omega⟩, fun x hx => by have := g5 x hx; unfold okL; omega⟩
theorem small.names {f : PFunc} (h : small f) : okNames f := ⟨fun v hv => by have := h.2.2.2.1 v hv; omega, fun b hb => by have := (h.2.2.2.2 b hb).1; omega⟩
theorem all_cell {α : Type} {enc : α → List AV} (h : ∀ x, (enc x).all AV.cell = true) (xs : List α) : (xs.map enc).flatten.all AV.cell = true := by
 induction xs with
 | nil => rfl
 | cons x xs ih => simp only [List.map_cons, List.flatten_cons, List.all_append, h, ih, Bool.and_self]
theorem cloneI_own (xs : List Int) (hl : xs.length ≤ 1000) : ACall prog E 93 [.fro 1 (xs.map encI)] [] (fun x O' => ∃ i : Nat, x = .own i xs.length ∧ Left O' [(i, .grow 1 3 (xs.map encI).flatten)] ∧ True) := by
 refine zo func93 rfl (by decide) rfl<|zSr<|z2 (zAr rfl)<|z6<|zd<|zSr<|z2 (zMf rfl)<|AOps.isNil underlying23 rfl rfl (fun hnil=>?_) ?_
 ·have hx : xs = [] := by simpa using hnil
  subst hx
  refine z6<|yo rfl rfl<|zSr<|z2 (zAr rfl)<|z6<|zg ?_
  repeat (first | refine aseqQ_ret ?_ | refine ablockQ_ret ?_)
  refine adopt_fin (s := 2) (k := 1) (T := 3) rfl (fun i=>?_)
  refine zk (x := .own _ _) rfl ?_
  exact ⟨i, rfl, .refl _, trivial⟩
 ·refine z6<|ym rfl rfl<|zh<|zSr<|ye (k := 1) underlying23 type3<|fun i5 => z2 (zMf rfl)<|yg (k := 1) underlying23 type3 rfl rfl rfl rfl rfl (fun _ => .head) (by simp) (by decide) (all_cell (fun _ => rfl) xs) (by show (_ + _) * 8 ≤ _; simp <;> omega) (by simp <;> omega)<|fun i7 => z2 (zAo rfl)<|z6<|zg<|zk (x := .own _ _) rfl ?_
  exact ⟨i7, (by simp), ⟨_, .refl _, rfl⟩, trivial⟩
theorem cloneV_own (xs : List PVar) (hl : xs.length ≤ 1000) : ACall prog E 92 [.fro 2 (xs.map encVar)] [] (fun x O' => ∃ i : Nat, x = .own i xs.length ∧ Left O' [(i, .grow 2 79 (xs.map encVar).flatten)] ∧ True) := by
 refine zo func92 rfl (by decide) rfl<|zSr<|z2 (zAr rfl)<|z6<|zd<|zSr<|z2 (zMf rfl)<|AOps.isNil underlying22 rfl rfl (fun hnil=>?_) ?_
 ·have hx : xs = [] := by simpa using hnil
  subst hx
  refine z6<|yo rfl rfl<|zSr<|z2 (zAr rfl)<|z6<|zg ?_
  repeat (first | refine aseqQ_ret ?_ | refine ablockQ_ret ?_)
  refine adopt_fin (s := 2) (k := 2) (T := 79) rfl (fun i=>?_)
  refine zk (x := .own _ _) rfl ?_
  exact ⟨i, rfl, .refl _, trivial⟩
 ·refine z6<|ym rfl rfl<|zh<|zSr<|ye (k := 2) underlying22 type79<|fun i5 => z2 (zMf rfl)<|yg (k := 2) underlying22 type79 rfl rfl rfl rfl rfl (fun _ => .head) (by simp) (by decide) (all_cell (fun _ => rfl) xs) (by show (_ + _) * 24 ≤ _; simp <;> omega) (by simp <;> omega)<|fun i7 => z2 (zAo rfl)<|z6<|zg<|zk (x := .own _ _) rfl ?_
  exact ⟨i7, (by simp), ⟨_, .refl _, rfl⟩, trivial⟩
theorem cloneI_spec (xs : List Int) (hl : xs.length ≤ 1000) : AFun prog E 93 [.fro 1 (xs.map encI)] (.fro 1 (xs.map encI)) := (cloneI_own xs hl).frozen (by simp [encI]) (by decide) (by simp)
theorem cloneV_spec (xs : List PVar) (hl : xs.length ≤ 1000) : AFun prog E 92 [.fro 2 (xs.map encVar)] (.fro 2 (xs.map encVar)) := (cloneV_own xs hl).frozen (by simp [encVar]) (by decide) (by simp)
theorem copyB_own (f : PFunc) (hf : small f) : ACall prog E 41 [.agg (encF f)] [] (fun x O' => ∃ i : Nat, x = .agg [.fro 2 (f.vars.map encVar), .fro 1 (f.params.map encI), .own i f.blocks.length] ∧ Left O' [(i, .grow 7 58 (f.blocks.map encBlk).flatten)] ∧ True) := by
 obtain ⟨hf1, hf2, hf3, hf4, hf5⟩ := hf
 refine zo func41 rfl (by decide) rfl<|zSr<|y9 (cs := _) rfl rfl rfl<|zy (cs := [.raw (.slice none 0 0), .raw (.slice none 0 0), .raw (.slice none 0 0)]) zeroValue26 rfl rfl<|fun i2 => z6<|zd<|yp (γ := Nat) [1, 2] (fun i => [(3, .po i 0)]) (fun i => [(i, .cells 26 [.fro 2 (f.vars.map encVar), .fro 1 (f.params.map encI), .raw (.slice none 0 0)]), (i2, .cells 26 [.raw (.slice none 0 0), .raw (.slice none 0 0), .raw (.slice none 0 0)])]) (fun i => True) ?_ (fun _ _ h => h) ?_
 ·refine zu (fun j => Nat.beq j 8) (by kernel_rfl) rfl (zm (.rest _))<|zTk 0 rfl (zFF underlying26 rfl sizeOf22 rfl rfl)<|zTk 1 rfl (zLf isAgg22 rfl)<|zTk 3 rfl (zFF underlying26 rfl sizeOf23 rfl rfl)<|zTk 4 rfl (zLf isAgg23 rfl)<|yh (i := 2) (j := 7) rfl rfl (by kernel_rfl) ?_ ?_
  ·refine zf (cloneV_spec _ (by omega)) rfl<|z6<|yh (i := 5) (j := 7) rfl rfl (by kernel_rfl) ?_ ?_
   ·refine zf (cloneI_spec _ (by omega)) rfl<|z6<|zTk 6 rfl (zx (cps := [(0, [_]), (1, [_])]) (rs := [_, _, .raw (.slice none 0 0)]) pl26 rfl rfl rfl)<|zOn 7 rfl<|zy (cs := [.raw (.slice none 0 0), .raw (.slice none 0 0), .raw (.slice none 0 0)]) zeroValue26 rfl rfl<|fun i3 => z6<|y8<|ya (i := 8) rfl (by kernel_rfl) (by kernel_rfl)<|zq sizeOf26 rfl rfl rfl rfl rfl rfl .head rfl<|z6<|yd (by kernel_rfl) ?_
    exact ⟨i3, zR2, zR1, zLe, trivial⟩
   ·refine zy (cs := [.raw (.slice none 0 0), .raw (.slice none 0 0), .raw (.slice none 0 0)]) zeroValue26 rfl rfl<|fun i3 => z6<|zOn 5 rfl<|zf (cloneI_spec _ (by omega)) rfl<|z6<|zTk 6 rfl (zx (cps := [(0, [_]), (1, [_])]) (rs := [_, _, .raw (.slice none 0 0)]) pl26 rfl rfl rfl)<|y8<|ya (i := 8) rfl (by kernel_rfl) (by kernel_rfl)<|zq sizeOf26 rfl rfl rfl rfl rfl rfl .head rfl<|z6<|yd (by kernel_rfl) ?_
    exact ⟨i3, zR2, zR1, zLe, trivial⟩
  ·refine zy (cs := [.raw (.slice none 0 0), .raw (.slice none 0 0), .raw (.slice none 0 0)]) zeroValue26 rfl rfl<|fun i3 => z6<|zOn 2 rfl<|zf (cloneV_spec _ (by omega)) rfl<|z6<|zOn 5 rfl<|zf (cloneI_spec _ (by omega)) rfl<|z6<|zTk 6 rfl (zx (cps := [(0, [_]), (1, [_])]) (rs := [_, _, .raw (.slice none 0 0)]) pl26 rfl rfl rfl)<|y8<|ya (i := 8) rfl (by kernel_rfl) (by kernel_rfl)<|zq sizeOf26 rfl rfl rfl rfl rfl rfl .head rfl<|z6<|yd (by kernel_rfl) ?_
   exact ⟨i3, zR2, zR1, zLe, trivial⟩
 ·rintro i3 _
  refine zd<|zSr<|z2 (zFF underlying26 rfl sizeOf24 rfl rfl)<|z2 (zLf isAgg24 rfl)<|z2 (y2 underlying24 rfl)<|z2 (zMi rfl)<|z6<|adoptC_wp (off := 2) (k := 7) (T := 58) (fun _ => .head) rfl<|fun ib => zi<|y5 (γ := Nat × Nat) [2, 3, 19, 20] (fun g => [(21, .int .i64 g.1)]) (fun g => [(g.2, .grow 7 58 ((f.blocks.take g.1).map encBlk).flatten), (i3, .cells 26 [.fro 2 (f.vars.map encVar), .fro 1 (f.params.map encI), .own g.2 g.1]), (i2, .cells 26 [.raw (.slice none 0 0), .raw (.slice none 0 0), .raw (.slice none 0 0)])]) (fun g => g.1 ≤ f.blocks.length) (fun g => f.blocks.length - g.1) (0, ib) zR1 zLe (qt _) ?_
  rintro ⟨k, ib⟩ hk
  try dsimp only at *
  refine zSr<|z2 (yb rfl rfl)<|z6<|zd<|zr rfl (fun ck=>?_) (fun ck=>?_)
  ·have hk2 : k < f.blocks.length := by omega
   obtain ⟨hb0, hb1, hb2, hb3, hb4⟩ := hf5 _ (qu hk2)
   refine zh<|zd<|zi<|zSr<|z2 (q5 underlying24 sizeOf58 rfl rfl rfl (qq (by omega)))<|z2 (zp isAgg58 sizeOf58 rfl rfl)<|zy (cs := [.str ⟨#[]⟩, .raw (.slice none 0 0), .raw (.slice none 0 0), .int .i64 0, .int .i64 0, .int .i64 0, .int .i64 0]) zeroValue58 rfl rfl<|fun i5 => zq sizeOf58 rfl rfl rfl rfl rfl rfl .head rfl<|z6<|zSr<|z2 (ze underlying58 rfl sizeOf9 (by decide) rfl rfl)<|z2 (zl (c := .str _) isAgg9 rfl ⟨_, .head⟩ rfl)<|z2 (ze underlying58 rfl sizeOf56 (by decide) rfl rfl)<|z2 (Gv.loadAC (l := [_, _, _, _]) isAgg56 sizeOf56 rfl ⟨_, .head⟩ rfl rfl)<|z2 (zx (cps := [(0, [_]), (3, [_, _, _, _])]) (rs := [_, .raw (.slice none 0 0), .raw (.slice none 0 0), _, _, _, _]) pl58 rfl rfl rfl)<|zy (cs := [.str ⟨#[]⟩, .raw (.slice none 0 0), .raw (.slice none 0 0), .int .i64 0, .int .i64 0, .int .i64 0, .int .i64 0]) zeroValue58 rfl rfl<|fun i6 => zq sizeOf58 rfl rfl rfl rfl rfl rfl .head rfl<|z6<|zd<|zSr<|z2 (ze underlying58 rfl sizeOf51 (by decide) rfl rfl)<|z2 (zl (c := .fro _ _) isAgg51 rfl ⟨_, .t1⟩ rfl)<|z2 (y2 underlying51 rfl)<|z2 (zMi rfl)<|z6<|adoptC_wp (off := 1) (k := 3) (T := 81) (fun _ => .head) rfl<|fun ip => yc (za (zb .t1))<|zi<|y5 (γ := Nat × Nat) [2, 3, 5, 6, 19, 20, 21, 31, 32] (fun g => [(33, .int .i64 g.1)]) (fun g => [(i6, .cells 58 [.str f.blocks[k].name, .own g.2 g.1, .raw (.slice none 0 0), .int .i64 f.blocks[k].term.kind, .int .i64 f.blocks[k].term.var, .int .i64 f.blocks[k].term.to0, .int .i64 f.blocks[k].term.to1]), (g.2, .grow 3 81 ((f.blocks[k].phis.take g.1).map encPhi).flatten), (i5, .cells 58 (encBlk f.blocks[k])), (ib, .grow 7 58 ((f.blocks.take k).map encBlk).flatten), (i3, .cells 26 [.fro 2 (f.vars.map encVar), .fro 1 (f.params.map encI), .own ib k]), (i2, .cells 26 [.raw (.slice none 0 0), .raw (.slice none 0 0), .raw (.slice none 0 0)])]) (fun g => g.1 ≤ f.blocks[k].phis.length) (fun g => f.blocks[k].phis.length - g.1) (0, ip) zR1 zLe (qt _) ?_
   rintro ⟨m, ip⟩ hm
   try dsimp only at *
   refine zSr<|z2 (yb rfl rfl)<|z6<|zd<|zr rfl (fun cm=>?_) (fun cm=>?_)
   ·have hm2 : m < f.blocks[k].phis.length := by omega
    obtain ⟨hp1, hp2⟩ := hb3 _ (qu hm2)
    refine zh<|zd<|zi<|zSr<|z2 (q5 underlying51 sizeOf81 rfl rfl rfl (qq (by omega)))<|z2 (zp isAgg81 sizeOf81 rfl rfl)<|zy (cs := [.int .i64 0, .raw (.slice none 0 0), .raw (.slice none 0 0)]) zeroValue81 rfl rfl<|fun i8 => zq sizeOf81 rfl rfl rfl rfl rfl rfl .head rfl<|z6<|zu (fun j => Nat.beq j 14) (by kernel_rfl) rfl (zm (.r (.r (.rest _))))<|zTk 0 rfl (ze underlying58 rfl sizeOf51 (by decide) rfl rfl)<|zTk 1 rfl (zl (c := .own _ _) isAgg51 rfl ⟨_, .t1⟩ rfl)<|zTk 2 rfl (ze underlying81 rfl sizeOf3 (by decide) rfl rfl)<|zTk 3 rfl (zl (c := .int _ _) isAgg3 rfl ⟨_, .head⟩ rfl)<|zTk 4 rfl (ze underlying81 rfl sizeOf23 (by decide) rfl rfl)<|zTk 5 rfl (zl (c := .fro _ _) isAgg23 rfl ⟨_, .head⟩ rfl)<|zTk 7 rfl (ze underlying81 rfl sizeOf23 (by decide) rfl rfl)<|zTk 8 rfl (zl (c := .fro _ _) isAgg23 rfl ⟨_, .head⟩ rfl)<|zOn 6 rfl<|zf (cloneI_spec _ (by omega)) rfl<|z6<|zOn 9 rfl<|zf (cloneI_spec _ (by omega)) rfl<|z6<|zTk 10 rfl (zx (cps := [(0, [_]), (1, [_]), (2, [_])]) (rs := [_, _, _]) pl81 rfl rfl rfl)<|zOn 11 rfl<|zw (rows := [[_, _, _]]) ps51_1 rfl rfl rfl rfl rfl<|z6<|zOn 12 rfl<|yg (k := 3) underlying51 type81 rfl rfl rfl rfl rfl (fun _ => .head) (by rw [grow_len (k := 3) (fun _ => rfl), qz, Nat.min_eq_left hm]) (by decide) rfl (by show (_ + _) * 56 ≤ _; simp <;> omega) (by simp <;> omega)<|fun i49 => z6<|zTk 13 rfl (ze underlying58 rfl sizeOf51 (by decide) rfl rfl)<|y8<|ya (i := 14) rfl (by kernel_rfl) (by kernel_rfl)<|yn (l := [_]) (new := [_, _, _, _, _, _, _]) sizeOf51 rfl rfl rfl rfl rfl rfl .t1 rfl rfl<|z6<|yd (by kernel_rfl)<|zRg<|z2 (zAd rfl rfl) ?_
    refine z2 (zMi rfl)<|z6 ?_
    exact ⟨(m + 1, i49), zR9, zR1, ⟨_, (.drop (.refl _)), by rw [← grow_push (qr hm2)]; rfl⟩, hm2, by dsimp only; omega⟩
   ·obtain rfl : m = f.blocks[k].phis.length := by omega
    refine y4<|zd<|zSr<|z2 (ze underlying58 rfl sizeOf52 (by decide) rfl rfl)<|z2 (zl (c := .fro _ _) isAgg52 rfl ⟨_, .t2⟩ rfl)<|z2 (y2 underlying52 rfl)<|z2 (zMi rfl)<|z6<|adoptC_wp (off := 2) (k := 4) (T := 61) (fun _ => .head) rfl<|fun ii => zi<|y5 (γ := Nat × Nat) [2, 3, 6, 19, 20, 21, 53, 54] (fun g => [(55, .int .i64 g.1)]) (fun g => [(g.2, .grow 4 61 ((f.blocks[k].insts.take g.1).map encInst).flatten), (i6, .cells 58 [.str f.blocks[k].name, .own ip f.blocks[k].phis.length, .own g.2 g.1, .int .i64 f.blocks[k].term.kind, .int .i64 f.blocks[k].term.var, .int .i64 f.blocks[k].term.to0, .int .i64 f.blocks[k].term.to1]), (ip, .grow 3 81 (f.blocks[k].phis.map encPhi).flatten), (i5, .cells 58 (encBlk f.blocks[k])), (ib, .grow 7 58 ((f.blocks.take k).map encBlk).flatten), (i3, .cells 26 [.fro 2 (f.vars.map encVar), .fro 1 (f.params.map encI), .own ib k]), (i2, .cells 26 [.raw (.slice none 0 0), .raw (.slice none 0 0), .raw (.slice none 0 0)])]) (fun g => g.1 ≤ f.blocks[k].insts.length) (fun g => f.blocks[k].insts.length - g.1) (0, ii) zR1 ⟨_, (.refl _), by rw [qv]; rfl⟩ (qt _) ?_
    rintro ⟨m, ii⟩ hm
    try dsimp only at *
    refine zSr<|z2 (yb rfl rfl)<|z6<|zd<|zr rfl (fun cm=>?_) (fun cm=>?_)
    ·have hm2 : m < f.blocks[k].insts.length := by omega
     have hp1 := hb4 _ (qu hm2)
     refine zh<|zd<|zi<|zSr<|z2 (q5 underlying52 sizeOf61 rfl rfl rfl (qq (by omega)))<|z2 (zp isAgg61 sizeOf61 rfl rfl)<|zy (cs := [.int .i64 0, .int .i64 0, .raw (.slice none 0 0), .int .i64 0]) zeroValue61 rfl rfl<|fun i10 => zq sizeOf61 rfl rfl rfl rfl rfl rfl .head rfl<|z6<|zSr<|z2 (ze underlying61 rfl sizeOf23 (by decide) rfl rfl)<|z2 (zl (c := .fro _ _) isAgg23 rfl ⟨_, .head⟩ rfl)<|zf (cloneI_spec _ (by omega)) rfl<|z2 (ze underlying61 rfl sizeOf23 (by decide) rfl rfl)<|yn (l := [_]) (new := [_, _, _, _]) sizeOf23 rfl rfl rfl rfl rfl rfl .head rfl rfl<|z6<|zRg<|z2 (ze underlying58 rfl sizeOf52 (by decide) rfl rfl)<|z2 (zl (c := .own _ _) isAgg52 rfl ⟨_, .t2⟩ rfl)<|z2 (q9 isAgg61 sizeOf61 rfl ⟨_, .head⟩ rfl)<|zw (rows := [[_, _, _, _]]) ps52_1 rfl rfl rfl rfl rfl<|yg (k := 4) underlying52 type61 rfl rfl rfl rfl rfl (fun _ => .t1) (by rw [grow_len (k := 4) (fun _ => rfl), qz, Nat.min_eq_left hm]) (by decide) rfl (by show (_ + _) * 48 ≤ _; simp <;> omega) (by simp <;> omega)<|fun i67 => z2 (ze underlying58 rfl sizeOf52 (by decide) rfl rfl)<|yn (l := [_]) (new := [_, _, _, _, _, _, _]) sizeOf52 rfl rfl rfl rfl rfl rfl .t2 rfl rfl<|z6<|zRg<|z2 (zAd rfl rfl)<|z2 (zMi rfl)<|z6 ?_
     exact ⟨(m + 1, i67), zR8, zR1, ⟨_, (.drop (.refl _)), by rw [← grow_push (qr hm2)]; rfl⟩, hm2, by dsimp only; omega⟩
    ·obtain rfl : m = f.blocks[k].insts.length := by omega
     rw [qv]
     refine y4<|yc (qf (off := 1) (rows := f.blocks[k].phis.map encPhi) .t2 .t1 rfl (by simp [encI, encVar, encPhi, encInst, encBlk]) (by decide) (by simp))<|yc (qf (off := 2) (rows := f.blocks[k].insts.map encInst) .head .head rfl (by simp [encI, encVar, encPhi, encInst, encBlk]) (by decide) (by simp))<|zRg<|z2 (ze underlying26 rfl sizeOf24 (by decide) rfl rfl)<|z2 (zl (c := .own _ _) isAgg24 rfl ⟨_, .t3⟩ rfl)<|z2 (q9 isAgg58 sizeOf58 rfl ⟨_, .head⟩ rfl)<|zw (rows := [[_, _, _, _, _, _, _]]) ps24_1 rfl rfl rfl rfl rfl<|yg (k := 7) underlying24 type58 rfl rfl rfl rfl rfl (fun _ => .t2) (by rw [grow_len (k := 7) (fun _ => rfl), qz, Nat.min_eq_left hk]) (by decide) rfl (by show (_ + _) * 96 ≤ _; simp <;> omega) (by simp <;> omega)<|fun i74 => z2 (ze underlying26 rfl sizeOf24 (by decide) rfl rfl)<|yn (l := [_]) (new := [_, _, _]) sizeOf24 rfl rfl rfl rfl rfl rfl .t3 rfl rfl<|z6<|zRg<|z2 (zAd rfl rfl)<|z2 (zMi rfl)<|z6 ?_
     exact ⟨(k + 1, i74), zR4, zR1, ⟨_, (.drop (.drop (.refl _))), by rw [← grow_push (qr hk2)]; rfl⟩, hk2, by dsimp only; omega⟩
  ·obtain rfl : k = f.blocks.length := by omega
   rw [qv]
   refine y4<|zSr<|z2 (q9 isAgg26 sizeOf26 rfl ⟨_, .t1⟩ rfl)<|zq sizeOf26 rfl rfl rfl rfl rfl rfl .t2 rfl<|z6<|zg<|afin.c1 rfl ⟨_, .t2⟩ isAgg26 sizeOf26 rfl ?_
   exact ⟨ib, rfl, ⟨_, .keep (.drop (.drop (.refl _))), rfl⟩, trivial⟩
end Go.Proofs.YtiojekbkamegdaaGreatDoor
namespace Go.Proofs.YtiojekbkamegdaaGreatDoor
open Go.Proofs.Tryz
open Go.Proofs Go.Lib Go.Shelf Go.RowKit
set_option maxRecDepth 20000
variable {E : World}
theorem copyF_spec (f : PFunc) (hf : small f) : AFun prog E 41 [.agg (encF f)] (.agg (encF f)) :=
 (copyB_own f hf).know fun I F w v y O' ⟨i, e, hl, _⟩ h1 h2 => by
  subst e
  obtain ⟨J, h3, h4, h5⟩ := Go.Proofs.YtiojekbkamegdaaGreatDoor.know (m := f.blocks.length) .head (by simp [encBlk]) (by decide) (by simp) (hl.sla h2)
  obtain ⟨vs, ev, v1, us1, e1, r1, v2, us2, e2, r2, v3, us3, e3, r3, r4⟩ := h1
  exact ⟨J, .agg (encF f), [], h3, ⟨vs, ev, v1, us1, e1, qg h3 _ _ r1, v2, us2, e2, qg h3 _ _ r2, v3, us3, e3, h5 _ r3, r4⟩, h4, rfl⟩
end Go.Proofs.YtiojekbkamegdaaGreatDoor
namespace Go.Proofs.YtiojekbkamegdaaGreatDoor
open Go.Proofs.Tryz
open Go.Proofs Go.Lib Go.Shelf Go.RowKit
set_option maxRecDepth 20000
variable {E : World}
def wV (l : List PVar) : Nat := (l.map fun v => v.name.size).sum
def wP (l : List PPhi) : Nat := (l.map fun p => p.args.length + p.from_.length).sum
def wX (l : List PInst) : Nat := (l.map fun x => x.args.length).sum
def wB (b : PBlock) : Nat := b.name.size + 10 * (b.phis.length + b.insts.length) + wP b.phis + wX b.insts
def wBs (l : List PBlock) : Nat := (l.map wB).sum
def littleB (b : PBlock) : Prop := b.name.size ≤ 400 ∧ b.phis.length ≤ 400 ∧ b.insts.length ≤ 400 ∧ (∀ p ∈ b.phis, p.args.length ≤ 400 ∧ p.from_.length ≤ 400) ∧ ∀ x ∈ b.insts, x.args.length ≤ 400
def little (f : PFunc) : Prop := f.vars.length ≤ 100 ∧ f.blocks.length ≤ 40 ∧ f.params.length ≤ 20 ∧ (∀ v ∈ f.vars, v.name.size ≤ 400) ∧ (∀ b ∈ f.blocks, littleB b) ∧ (f.blocks ≠ [] → wV f.vars + wBs f.blocks ≤ 4000)
theorem little.small {f : PFunc} (h : little f) : small f := by
 obtain ⟨h1, h2, h3, h4, h5, _⟩ := h
 refine ⟨by omega, by omega, by omega, fun v hv => by have := h4 v hv; omega, fun b hb => ?_⟩
 obtain ⟨g1, g2, g3, g4, g5⟩ := h5 b hb
 exact ⟨by omega, by omega, by omega, fun p hp => by have := g4 p hp; omega, fun x hx => by have := g5 x hx; omega⟩
def wL {α : Type} (l : List α) : Prop := l.length ≤ 9223372036854775807
theorem wL.lt {α : Type} {l : List α} (h : wL l) : l.length ≤ 9223372036854775807 := h
end Go.Proofs.YtiojekbkamegdaaGreatDoor
namespace Go.Proofs.YtiojekbkamegdaaGreatDoor
open Go.Proofs.Tryz
open Go.Proofs Go.Lib Go.Shelf Go.RowKit
set_option maxRecDepth 20000
variable {E : World}
end Go.Proofs.YtiojekbkamegdaaGreatDoor
namespace Go.Proofs.YtiojekbkamegdaaGreatDoor
open Go.Proofs.Tryz
open Go.Proofs Go.Lib Go.Shelf Go.RowKit
set_option maxRecDepth 20000
variable {E : World}
theorem rows_27 : ∀ r ∈ kindT, r.1 ≠ ⟨#[]⟩ := by decide
theorem word_ne {op : Int} (h : 0 ≤ op ∧ op ≤ 26) : (kRow op).1 ≠ ⟨#[]⟩ := by
 have hm : kRow op ∈ kindT := by
  unfold kRow
  rw [if_pos h.1, qq (show _ < 27 by omega)]
  exact qu _
 exact rows_27 _ hm
theorem word_num : ∀ j : Nat, j < 27 → isNum (j : Int) = (decide ((kRow (j : Int)).1 = ⟨#[99, 111, 110, 115, 116]⟩) || decide ((kRow (j : Int)).1 = ⟨#[112, 105]⟩)) := by decide
theorem wordB_num {x : PInst} (h : 0 ≤ x.op ∧ x.op ≤ 26) : wordB x = isNum x.op := by
 have := word_num x.op.toNat (by omega)
 rw [w5 h.1] at this
 unfold wordB; exact this.symm
theorem takes_len (op : Int) : (takesL op).length = (kRow op).2.1.size := by unfold takesL; rw [qx]; exact Array.length_toList
theorem bytes_nil (b : ByteArray) : b.data.toList.isEmpty = decide (b = ⟨#[]⟩) := by
 obtain ⟨⟨l⟩⟩ := b
 cases l <;> simp
theorem makesB_eq (op : Int) : makesB op = !decide ((kRow op).2.2 = ⟨#[]⟩) := by unfold makesB; rw [bytes_nil]
theorem kRow_none {op : Int} (h : ¬ (0 ≤ op ∧ op ≤ 26)) : kRow op = (⟨#[]⟩, ⟨#[]⟩, ⟨#[]⟩) := kRow_out (by unfold isOp; simp; omega)
theorem instOK_iff (f : PFunc) (x : PInst) : instOK f x = true ↔ InstP f x := by
 by_cases h : 0 ≤ x.op ∧ x.op ≤ 26
 ·have hw := word_ne h
  have hn := wordB_num h
  unfold instOK inst1 inst2 InstP bad2
  rw [takes_len, makesB_eq, hn]
  by_cases h1 : x.args.length = (kRow x.op).2.1.size <;> by_cases h2 : (kRow x.op).2.2 = ⟨#[]⟩ <;> by_cases h3 : x.dst = -1 <;> by_cases h4 : x.num = 0 <;> by_cases h5 : x.args.all (hasV f) = true <;> simp_all [Int.ofNat_inj] <;> (try (unfold hasV; simp)) <;> (try grind)
 ·constructor
  ·intro h2
   have := kRow_none h
   unfold instOK inst1 at h2
   rw [this] at h2; simp at h2
  ·intro h2; exact absurd ⟨h2.1, h2.2.1⟩ h
def only (f : PFunc) (x : PInst) : PFunc := { f with blocks := [⟨⟨#[111, 110, 108, 121]⟩, [], [x], ⟨0, 0, 0, 0⟩⟩] }
def ended (f : PFunc) (b0 : PBlock) (bs : List PBlock) (t : PTerm) : PFunc := { f with blocks := { b0 with term := t } :: bs }
end Go.Proofs.YtiojekbkamegdaaGreatDoor
namespace Go.Proofs.YtiojekbkamegdaaGreatDoor
open Go.Proofs.Tryz
open Go.Proofs Go.Lib Go.Shelf Go.RowKit
set_option maxRecDepth 20000
variable {E : World}
def letterC (c : Int) : Bool := isLetterU c && !decide (c = 65533)
def digitC (c : Int) : Bool := decide (48 ≤ c) && decide (c ≤ 57)
def innerC (c : Int) : Bool := letterC c || (digitC c || (decide (c = 46) || decide (c = 95)))
theorem zletter_spec (c : Int) (h1 : -2147483648 ≤ c) (h2 : c ≤ 2147483647) (hL : Letters E) : AFun prog E 284 [.int .i32 c] (.bool (letterC c)) := by
 refine zo func284 rfl (by decide) rfl<|zSr<|z2 (zAb rfl)<|z6<|zSr<|z2 (zMi rfl)<|zf (letter_spec c h1 h2 hL) rfl<|z2 (zMb rfl)<|zt (s := 5) rfl (fun c1=>?_) (fun c1=>?_)
 ·refine z8 rfl rfl c1<|z2 (zMi rfl)<|z8 rfl rfl c1<|z2 (yj rfl rfl)<|z2 (zPt rfl c1 rfl)<|z2 (zAb rfl)<|z6<|zg<|zk (x := .bool _) rfl ?_
  exact jb (by simp_all [letterC])
 ·refine z7 rfl rfl c1<|z7 rfl rfl c1<|z2 (zPf rfl c1 rfl)<|z2 (zAb rfl)<|z6<|zg<|zk (x := .bool _) rfl ?_
  exact jb (by simp_all [letterC])
theorem zdigit_spec (c : Int) : AFun prog E 287 [.int .i32 c] (.bool (digitC c)) := by
 refine zo func287 rfl (by decide) rfl<|zSr<|z2 (zAb rfl)<|z6<|zSr<|z2 (zMi rfl)<|z2 (q6 rfl rfl)<|z2 (zMb rfl)<|zt (s := 5) rfl (fun c2=>?_) (fun c2=>?_)
 ·refine z8 rfl rfl c2<|z2 (zMi rfl)<|z8 rfl rfl c2<|z2 (Gv.leq rfl rfl)<|z2 (zPt rfl c2 rfl)<|z2 (zAb rfl)<|z6<|zg<|zk (x := .bool _) rfl ?_
  exact jb (by simp_all [digitC] <;> (intros; omega))
 ·refine z7 rfl rfl c2<|z7 rfl rfl c2<|z2 (zPf rfl c2 rfl)<|z2 (zAb rfl)<|z6<|zg<|zk (x := .bool _) rfl ?_
  exact jb (by simp_all [digitC] <;> (intros; omega))
theorem zinner_spec (c : Int) (h1 : -2147483648 ≤ c) (h2 : c ≤ 2147483647) (hL : Letters E) : AFun prog E 285 [.int .i32 c] (.bool (innerC c)) := by
 refine zo func285 rfl (by decide) rfl<|zSr<|z2 (zAb rfl)<|z6<|zSr<|z2 (zMi rfl)<|zf (zletter_spec c h1 h2 hL) rfl<|z2 (zMb rfl)<|zt (s := 5) rfl (fun c3=>?_) (fun c3=>?_)
 ·refine z7 rfl rfl c3<|z7 rfl rfl c3<|z2 (zPt rfl c3 rfl)<|z2 (zMb rfl)<|z7 rfl rfl rfl<|z7 rfl rfl rfl<|z2 (zPt rfl rfl rfl)<|z2 (zMb rfl)<|z7 rfl rfl rfl<|z7 rfl rfl rfl<|z2 (zPt rfl rfl rfl)<|z2 (zAb rfl)<|z6<|zg<|zk (x := .bool _) rfl ?_
  exact jb (by simp_all [innerC])
 ·refine z8 rfl rfl c3<|z2 (zMi rfl)<|z8 rfl rfl c3<|zf (zdigit_spec _) rfl<|z2 (zPf rfl c3 rfl)<|z2 (zMb rfl)<|zt (s := 9) rfl (fun c4=>?_) (fun c4=>?_)
  ·refine z7 rfl rfl c4<|z7 rfl rfl c4<|z2 (zPt rfl c4 rfl)<|z2 (zMb rfl)<|z7 rfl rfl rfl<|z7 rfl rfl rfl<|z2 (zPt rfl rfl rfl)<|z2 (zAb rfl)<|z6<|zg<|zk (x := .bool _) rfl ?_
   exact jb (by simp_all [innerC])
  ·refine z8 rfl rfl c4<|z2 (zMi rfl)<|z8 rfl rfl c4<|z2 (y7 rfl rfl)<|z2 (zPf rfl c4 rfl)<|z2 (zMb rfl)<|zt (s := 13) rfl (fun c5=>?_) (fun c5=>?_)
   ·refine z7 rfl rfl c5<|z7 rfl rfl c5<|z2 (zPt rfl c5 rfl)<|z2 (zAb rfl)<|z6<|zg<|zk (x := .bool _) rfl ?_
    exact jb (by simp_all [innerC])
   ·refine z8 rfl rfl c5<|z2 (zMi rfl)<|z8 rfl rfl c5<|z2 (y7 rfl rfl)<|z2 (zPf rfl c5 rfl)<|z2 (zAb rfl)<|z6<|zg<|zk (x := .bool _) rfl ?_
    exact jb (by simp_all [innerC])
def runesFrom (s : ByteArray) (p : Nat) : List Int := if h : p < s.size then ((Utf8.decode s p).1 : Int) :: runesFrom s (p + (Utf8.decode s p).2) else []
termination_by s.size - p
decreasing_by have := (decode_ok s p).1; omega
theorem runesFrom_lt {s : ByteArray} {p : Nat} (h : p < s.size) : runesFrom s p = ((Utf8.decode s p).1 : Int) :: runesFrom s (p + (Utf8.decode s p).2) := by rw [runesFrom, dif_pos h]
theorem runesFrom_ge {s : ByteArray} {p : Nat} (h : ¬ p < s.size) : runesFrom s p = [] := by rw [runesFrom, dif_neg h]
theorem runesFrom_len (s : ByteArray) : ∀ k p, s.size - p ≤ k → (runesFrom s p).length ≤ k := by
 intro k
 induction k with
 | zero => intro p h; rw [runesFrom_ge (by omega)]; simp
 | succ k ih =>
  intro p h
  by_cases hp : p < s.size
  ·rw [runesFrom_lt hp]
   have := (decode_ok s p).1
   have := ih (p + (Utf8.decode s p).2) (by omega)
   simp; omega
  ·rw [runesFrom_ge hp]; simp
theorem runes_spec (s : ByteArray) (hs : s.size ≤ 140737488355328) : AFun prog E 286 [.str s] (.int .i64 (runesFrom s 0).length) := by
 have h0 := runesFrom_len s s.size 0 (by omega)
 refine zo func286 rfl (by decide) rfl<|zSr<|z2 (zAi rfl)<|z6<|zSr<|z2 (zAi rfl)<|z6<|zd<|zSr<|z2 (yq (v := .str _) rfl)<|AOps.rangeT underlying9 rfl<|fun i5 => z6<|zi<|y5 (γ := Nat × Nat) [5] (fun g => [(3, .int .i64 g.2)]) (fun g => [(i5, .iter s g.1)]) (fun g => g.2 + (runesFrom s g.1).length = (runesFrom s 0).length) (fun g => s.size - g.1) (0, 0) zR1 zLe (by simp) ?_
 rintro ⟨p, n⟩ hp
 try dsimp only at *
 by_cases hlt : p < s.size
 ·have hd := (decode_ok s p).1
  rw [runesFrom_lt hlt] at hp
  simp only [List.length_cons] at hp
  refine zSr<|AOps.nextT rfl .head hlt<|z2 (zXb rfl rfl)<|z6<|zd<|yo rfl rfl<|zh<|zi<|zRg<|z2 (zMi rfl)<|z2 (zAd rfl rfl)<|z2 (zAi rfl)<|z6 ?_
  exact ⟨(p + (Utf8.decode s p).2, n + 1), zR1, zR1, zLe, by dsimp only; omega, by dsimp only; omega⟩
 ·rw [runesFrom_ge hlt] at hp
  simp only [List.length_nil] at hp
  refine zSr<|AOps.nextTover rfl .head hlt<|z2 (zXb rfl rfl)<|z6<|zd<|ym rfl rfl<|y4<|zSr<|z2 (zMi rfl)<|z2 (zAi rfl)<|z6<|zg<|zk (x := .int _ _) rfl ?_
  exact congrArg (AV.int .i64) (by omega)
def nmGo (s : ByteArray) (p : Nat) : Bool := if h : p < s.size then (if (decide (p = 0) && !letterC ((Utf8.decode s p).1 : Int)) || !innerC ((Utf8.decode s p).1 : Int) then false else nmGo s (p + (Utf8.decode s p).2)) else (decide (¬ s = ⟨#[]⟩) && decide (((runesFrom s 0).length : Int) ≤ 16))
termination_by s.size - p
decreasing_by have := (decode_ok s p).1; omega
def scanName (s : ByteArray) : Bool := nmGo s 0
theorem zname_spec (s : ByteArray) (hs : s.size ≤ 140737488355328) (hL : Letters E) : AFun prog E 279 [.str s] (.bool (scanName s)) := by
 refine zo func279 rfl (by decide) rfl<|zSr<|z2 (zAb rfl)<|z6<|zd<|zSr<|z2 (yq (v := .str _) rfl)<|AOps.rangeT underlying9 rfl<|fun i6 => z6<|zi<|y5 (γ := Nat) [0, 6] (fun p => []) (fun p => [(i6, .iter s p)]) (fun p => nmGo s p = scanName s) (fun p => s.size - p) 0 trivial zLe (rfl) ?_
 rintro p hp
 by_cases hlt : p < s.size
 ·obtain ⟨hd1, hd2⟩ := decode_ok s p
  have hstep := hp
  rw [nmGo, dif_pos hlt] at hstep
  refine zSr<|AOps.nextT rfl .head hlt<|z2 (zXb rfl rfl)<|z6<|zd<|yo rfl rfl<|zh<|zi<|zSr<|z2 (zXi rfl rfl)<|z2 (zXi rfl rfl)<|z2 (zAi rfl)<|z2 (zAi rfl)<|z6<|zSr<|z2 (zMi rfl)<|z2 (y7 rfl rfl)<|z2 (zMb rfl)<|zt (s := 13) rfl (fun c6=>?_) (fun c6=>?_)
  ·refine z8 rfl rfl c6<|z2 (zMi rfl)<|z8 rfl rfl c6<|zf (zletter_spec _ (by omega) (by omega) hL) rfl<|z8 rfl rfl c6<|z2 (yl rfl)<|z2 (zPt rfl c6 rfl)<|z2 (zMb rfl)<|zt (s := 18) rfl (fun c7=>?_) (fun c7=>?_)
   ·refine z7 rfl rfl c7<|z7 rfl rfl c7<|z7 rfl rfl c7<|z2 (zPt rfl c7 rfl)<|z6<|yo rfl rfl<|zSr<|z2 (zAb rfl)<|z6<|zg<|zk (x := .bool _) rfl ?_
    rw [if_pos (by simp_all <;> omega)] at hstep; exact jb hstep
   ·refine z8 rfl rfl c7<|z2 (zMi rfl)<|z8 rfl rfl c7<|zf (zinner_spec _ (by omega) (by omega) hL) rfl<|z8 rfl rfl c7<|z2 (yl rfl)<|z2 (zPf rfl c7 rfl)<|z6<|zz rfl (fun c8=>?_) (fun c8=>?_)
    ·refine zSr<|z2 (zAb rfl)<|z6<|zg<|zk (x := .bool _) rfl ?_
     rw [if_pos (by simp_all <;> omega)] at hstep; exact jb hstep
    ·refine zh ?_
     exact ⟨p + (Utf8.decode s p).2, zR2, trivial, zLe, by rw [if_neg (by simp_all <;> omega)] at hstep; exact hstep, by omega⟩
  ·refine z7 rfl rfl c6<|z7 rfl rfl c6<|z7 rfl rfl c6<|z2 (zPf rfl c6 rfl)<|z2 (zMb rfl)<|z8 rfl rfl rfl<|z2 (zMi rfl)<|z8 rfl rfl rfl<|zf (zinner_spec _ (by omega) (by omega) hL) rfl<|z8 rfl rfl rfl<|z2 (yl rfl)<|z2 (zPf rfl rfl rfl)<|z6<|zz rfl (fun c9=>?_) (fun c9=>?_)
   ·refine zSr<|z2 (zAb rfl)<|z6<|zg<|zk (x := .bool _) rfl ?_
    rw [if_pos (by simp_all <;> omega)] at hstep; exact jb hstep
   ·refine zh ?_
    exact ⟨p + (Utf8.decode s p).2, zR2, trivial, zLe, by rw [if_neg (by simp_all <;> omega)] at hstep; exact hstep, by omega⟩
 ·rw [nmGo, dif_neg hlt] at hp
  refine zSr<|AOps.nextTover rfl .head hlt<|z2 (zXb rfl rfl)<|z6<|zd<|ym rfl rfl<|y4<|zSr<|z2 (yq (v := .str _) rfl)<|z2 (Gv.neqT rfl rfl)<|z2 (zMb rfl)<|zt (s := 25) rfl (fun c10=>?_) (fun c10=>?_)
  ·refine z8 rfl rfl c10<|z2 (yq (v := .str _) rfl)<|z8 rfl rfl c10<|zf (runes_spec _ (by assumption)) rfl<|z8 rfl rfl c10<|z2 (Gv.leq rfl rfl)<|z2 (zPt rfl c10 rfl)<|z2 (zAb rfl)<|z6<|zg<|zk (x := .bool _) rfl ?_
   rw [← hp]; exact jb (by simp_all <;> (try omega))
  ·refine z7 rfl rfl c10<|z7 rfl rfl c10<|z7 rfl rfl c10<|z2 (zPf rfl c10 rfl)<|z2 (zAb rfl)<|z6<|zg<|zk (x := .bool _) rfl ?_
   rw [← hp]; exact jb (by simp_all <;> (try omega))
end Go.Proofs.YtiojekbkamegdaaGreatDoor
namespace Go.Proofs.YtiojekbkamegdaaGreatDoor
open Go.Proofs.Tryz
open Go.Proofs Go.Lib Go.Shelf Go.RowKit
set_option maxRecDepth 20000
variable {E : World}
def tyWord (t : Int) : ByteArray := if t = 0 then ⟨#[105, 110, 116]⟩ else if t = 1 then ⟨#[98, 111, 111, 108]⟩ else if t = 2 then ⟨#[97, 114, 114]⟩ else ⟨#[]⟩
theorem strL_of (s : ByteArray) : strL s.data.toList = s := by unfold strL; simp
def nameR : List Int → Bool
 | [] => false
 | c :: rs => letterC c && (rs.all innerC && decide (rs.length + 1 ≤ 16))
theorem letter_inner {c : Int} (h : letterC c = true) : innerC c = true := by unfold innerC; rw [h]; rfl
theorem nmGo_pos (s : ByteArray) : ∀ (n p : Nat), s.size - p ≤ n → 0 < p → p ≤ s.size → nmGo s p = ((runesFrom s p).all innerC && decide ((runesFrom s 0).length ≤ 16)) := by
 intro n
 induction n with
 | zero =>
  intro p h hp hps
  have hne : ¬ s = ⟨#[]⟩ := fun e => by subst e; have : p ≤ 0 := hps; omega
  rw [nmGo, dif_neg (by omega), runesFrom_ge (p := p) (by omega)]
  simp [hne]; omega
 | succ n ih =>
  intro p h hp hps
  by_cases hlt : p < s.size
  ·have hd := (decode_ok s p).1
   have hw : p + (Utf8.decode s p).2 ≤ s.size := by
    have := decodeL_le (s.data.toList.drop p) (by intro e; have := congrArg List.length e; rw [List.length_drop] at this; have h2 : s.data.toList.length = s.size := Array.length_toList; simp only [List.length_nil] at this; omega)
    rw [decodeL_drop, List.length_drop] at this
    have h2 : s.data.toList.length = s.size := Array.length_toList
    omega
   rw [nmGo, dif_pos hlt, runesFrom_lt hlt, List.all_cons]
   have hp0 : decide (p = 0) = false := w4 (by omega)
   rw [hp0, Bool.false_and, Bool.false_or]
   cases hi : innerC ((Utf8.decode s p).1 : Int) with
   | false => simp
   | true => rw [if_neg (by simp), ih _ (by omega) (by omega) hw]; simp
  ·have hne : ¬ s = ⟨#[]⟩ := fun e => by subst e; have : p ≤ 0 := hps; omega
   rw [nmGo, dif_neg hlt, runesFrom_ge (p := p) hlt]
   simp [hne]; omega
theorem step_le {s : ByteArray} {p : Nat} (hlt : p < s.size) : p + (Utf8.decode s p).2 ≤ s.size := by
 have h2 : s.data.toList.length = s.size := Array.length_toList
 have := decodeL_le (s.data.toList.drop p) (by intro e; have := congrArg List.length e; rw [List.length_drop] at this; simp only [List.length_nil] at this; omega)
 rw [decodeL_drop, List.length_drop] at this
 omega
theorem scanName_R (s : ByteArray) : scanName s = nameR (runesFrom s 0) := by
 unfold scanName
 by_cases hlt : 0 < s.size
 ·have hd := (decode_ok s 0).1
  have hw := step_le hlt
  have hr := runesFrom_lt hlt
  have hl := congrArg List.length hr
  rw [List.length_cons] at hl
  rw [nmGo, dif_pos hlt]
  have h2 : nameR (runesFrom s 0) = (letterC ((Utf8.decode s 0).1 : Int) && ((runesFrom s (0 + (Utf8.decode s 0).2)).all innerC && decide ((runesFrom s (0 + (Utf8.decode s 0).2)).length + 1 ≤ 16))) := by rw [hr]; rfl
  rw [h2]
  cases hc : letterC ((Utf8.decode s 0).1 : Int) with
  | false => simp
  | true =>
   rw [letter_inner hc, if_neg (by simp), nmGo_pos s _ _ (Nat.le_refl _) (by omega) hw, hl]; rfl
 ·rw [nmGo, dif_neg hlt, runesFrom_ge hlt]
  have : s = ⟨#[]⟩ := by
   have h2 : s.data.toList.length = s.size := Array.length_toList
   have h3 : s.data.toList = [] := List.eq_nil_of_length_eq_zero (by omega)
   rw [← strL_of s, h3]; rfl
  simp [this, nameR]
theorem cnt_end (k : Nat) : (decide ((1 : Int) ≤ ((k + 1 : Nat) : Int)) && decide (((k + 1 : Nat) : Int) ≤ 16)) = (([] : List Int).all innerC && decide (k + 1 + ([] : List Int).length ≤ 16)) := by
 rw [w3 (by omega), Bool.true_and]
 show _ = (true && _)
 rw [Bool.true_and, decide_eq_decide]
 show ((k + 1 : Nat) : Int) ≤ 16 ↔ k + 1 + 0 ≤ 16
 omega
theorem nameFrom_pos (s : ByteArray) : ∀ (n p k : Nat), s.size - p ≤ n → nameFrom s p (k + 1) = ((runesFrom s p).all innerC && decide (k + 1 + (runesFrom s p).length ≤ 16)) := by
 intro n
 induction n with
 | zero =>
  intro p k h
  rw [nameFrom, dif_neg (by omega), runesFrom_ge (by omega)]
  exact cnt_end k
 | succ n ih =>
  intro p k h
  by_cases hlt : p < s.size
  ·have hd := (decode_ok s p).1
   rw [nameFrom, dif_pos hlt, runesFrom_lt hlt, List.all_cons]
   have ho : okRune ((Utf8.decode s p).1 : Int) (k + 1) = innerC ((Utf8.decode s p).1 : Int) := by
    unfold okRune innerC letterC digitC
    have : decide (((k + 1 : Nat) : Int) = 0) = false := w4 (by omega)
    rw [this]; simp [Bool.or_assoc]
   rw [ho]
   cases hi : innerC ((Utf8.decode s p).1 : Int) with
   | false => simp
   | true => rw [if_pos rfl, ih _ _ (by omega), Bool.true_and, List.length_cons]; congr 2; simp; omega
  ·rw [nameFrom, dif_neg hlt, runesFrom_ge hlt]
   exact cnt_end k
theorem nameB_R (s : ByteArray) : nameB s = nameR (runesFrom s 0) := by
 unfold nameB
 by_cases hlt : 0 < s.size
 ·rw [nameFrom, dif_pos hlt, runesFrom_lt hlt]
  have ho : okRune ((Utf8.decode s 0).1 : Int) 0 = letterC ((Utf8.decode s 0).1 : Int) := by unfold okRune letterC; simp
  rw [ho]
  show _ = (letterC ((Utf8.decode s 0).1 : Int) && _)
  cases hc : letterC ((Utf8.decode s 0).1 : Int) with
  | false => simp
  | true => rw [if_pos rfl, nameFrom_pos s _ _ _ (Nat.le_refl _), Bool.true_and]; congr 2; simp; omega
 ·rw [nameFrom, dif_neg hlt, runesFrom_ge hlt]; rfl
theorem name_eq (s : ByteArray) : nameB s = scanName s := by rw [nameB_R, scanName_R]
structure InstF (f : PFunc) (x : PInst) : Prop where
 op : 0 ≤ x.op ∧ x.op ≤ 26
 len : x.args.length = (takesL x.op).length
 dst : (makesB x.op = false ∧ x.dst = -1) ∨ (makesB x.op = true ∧ x.dst ≠ -1 ∧ hasV f x.dst = true)
 num : isNum x.op = false → x.num = 0
 args : ∀ a ∈ x.args, hasV f a = true
theorem instP_F {f : PFunc} {x : PInst} (h : InstP f x) : InstF f x := by
 obtain ⟨h1, h2, h3, h4⟩ := h
 have hw := wordB_num ⟨h1, h2⟩
 unfold bad2 at h3
 simp only [Bool.or_eq_false_iff, Bool.not_eq_false', decide_eq_true_eq, Bool.and_eq_false_iff, beq_iff_eq] at h3
 obtain ⟨g1, g2, g3, g4⟩ := h3
 refine ⟨⟨h1, h2⟩, by rw [takes_len]; omega, ?_, fun hn=>?_, List.all_eq_true.1 h4⟩
 ·rw [makesB_eq]
  by_cases hd : x.dst = -1
  ·left
   rw [w3 hd] at g2
   exact ⟨by rw [g2]; rfl, hd⟩
  ·right
   rw [w4 hd] at g2
   refine ⟨by rw [g2]; rfl, hd, ?_⟩
   rcases g3 with g | g
   ·exact absurd g hd
   ·exact g
 ·rcases g4 with g | g
  ·exact g
  ·rw [hw, hn] at g; cases g
theorem tyWord_spec (t : Int) : AFun prog E 254 [.int .i64 t] (.str (tyWord t)) := by
 refine zo func254 rfl (by decide) rfl<|zSr<|z2 (q7 (v := .str _) rfl)<|z6<|zd<|zSr<|z2 (zMi rfl)<|z6<|zi<|zSr<|z2 (y7 rfl rfl)<|z2 (zAb rfl)<|z6<|zz rfl (fun c1=>?_) (fun c1=>?_)
 ·refine zSr<|z2 (q7 (v := .str _) rfl)<|z6<|zg<|zk (x := .str _) rfl ?_
  exact congrArg AV.str (by simp_all [tyWord])
 ·refine zSr<|z2 (y7 rfl rfl)<|z2 (zAb rfl)<|z6<|zz rfl (fun c2=>?_) (fun c2=>?_)
  ·refine zSr<|z2 (q7 (v := .str _) rfl)<|z6<|zg<|zk (x := .str _) rfl ?_
   exact congrArg AV.str (by simp_all [tyWord])
  ·refine zSr<|z2 (y7 rfl rfl)<|z2 (zAb rfl)<|z6<|zz rfl (fun c3=>?_) (fun c3=>?_)
   ·refine zSr<|z2 (q7 (v := .str _) rfl)<|z6<|zg<|zk (x := .str _) rfl ?_
    exact congrArg AV.str (by simp_all [tyWord])
   ·refine zh<|zSr<|z2 (q7 (v := .str _) rfl)<|z6<|zg<|zk (x := .str _) rfl ?_
    exact congrArg AV.str (by simp_all [tyWord])
end Go.Proofs.YtiojekbkamegdaaGreatDoor
namespace Go.Proofs.YtiojekbkamegdaaGreatDoor
open Go.Proofs.Tryz
open Go.Proofs Go.Lib Go.Shelf Go.RowKit
theorem ps311_1 : PlacesS prog 311 9 1 1 [.str ⟨#[]⟩] := ⟨_, underlying311, sizeOf9, zeroValue9, by decide, by decide, by kernel_rfl⟩
set_option maxRecDepth 20000
variable {E : World}
def inB (s : ByteArray) (l : List ByteArray) : Bool := l.any fun t => decide (t = s)
theorem inB_iff {s : ByteArray} {l : List ByteArray} : inB s l = true ↔ s ∈ l := by
 unfold inB; rw [List.any_eq_true]
 constructor
 ·rintro ⟨x, hx, h⟩; have h : x = s := by simpa using h
  exact h ▸ hx
 ·intro h; exact ⟨s, h, by simp⟩
theorem inB_snoc {s t : ByteArray} {l : List ByteArray} : inB s (l ++ [t]) = (inB s l || decide (t = s)) := by unfold inB; rw [List.any_append]; simp
def UnlP (l : List ByteArray) : Prop := ∀ i (h : i < l.length), scanName l[i] = true ∧ inB l[i] (l.take i) = false
instance (l : List ByteArray) : Decidable (UnlP l) := by unfold UnlP; infer_instance
theorem unl_new {t : ByteArray} {l : List ByteArray} {mt : Int} (ht : mt = if inB t l = true then 1 else 0) (hc : decide (0 < mt) = false) : inB t l = false := by
 have hc := of_decide_eq_false hc
 cases h : inB t l with
 | true => rw [h] at ht; simp at ht; omega
 | false => rfl
theorem unl_step {s t : ByteArray} {l : List ByteArray} {m : Option Int} {mt : Int} (hs : m.getD 0 = if inB s l = true then 1 else 0) (ht : mt = if inB t l = true then 1 else 0) (hc : decide (0 < mt) = false) :
  (if s = t then some (mt + 1) else m).getD 0 = if (inB s l || decide (t = s)) = true then 1 else 0 := by
 have h := unl_new ht hc
 rw [h] at ht
 have ht : mt = 0 := by simpa using ht
 by_cases e : s = t
 ·subst e; simp [ht]
 ·rw [if_neg e, hs]
  have e2 : ¬ t = s := fun h => e h.symm
  simp [e2]
theorem unl_upto {l : List ByteArray} {k : Nat} (hn : ∀ i (h : i < l.length), i < k → scanName l[i] = true ∧ inB l[i] (l.take i) = false) (hk : k < l.length) (h1 : scanName l[k] = true) (h2 : inB l[k] (l.take k) = false) :
  ∀ i (h : i < l.length), i < k + 1 → scanName l[i] = true ∧ inB l[i] (l.take i) = false := fun i h hi => by
 by_cases e : i = k
 ·subst e; exact ⟨h1, h2⟩
 ·exact hn i h (by omega)
theorem unlike_spec (l : List ByteArray) (hl : l.length ≤ 100000000) (hs : ∀ s ∈ l, s.size ≤ 140737488355328) (hL : Letters E) : AFun prog E 255 [.fro 1 (l.map encS)] (.bool (decide (UnlP l))) := by
 refine zo func255 rfl (by decide) rfl<|zSr<|z2 (zAb rfl)<|z6<|zSr<|AOps.makeMap<|fun b6 => z2 (q7 (v := mref _) rfl)<|z6<|zd<|zSr<|z2 (zMf rfl)<|z2 (y2 underlying311 rfl)<|z2 (zMi rfl)<|z6<|zi<|y5 (γ := Nat × List (ByteArray × Int)) [3, 7, 8] (fun g => [(9, .int .i64 g.1)]) (fun g => [(0, mapO b6 g.2)]) (fun g => g.1 ≤ l.length ∧ (∀ i (h : i < l.length), i < g.1 → scanName l[i] = true ∧ inB l[i] (l.take i) = false) ∧ ∀ s, (mget s g.2).getD 0 = if inB s (l.take g.1) = true then 1 else 0) (fun g => l.length - g.1) (0, []) zR1 zLe (⟨qt _, fun i h h2 => absurd h2 (Nat.not_lt_zero _), fun s => rfl⟩) ?_
 rintro ⟨k, es⟩ ⟨hk, hn, hm⟩
 try dsimp only at *
 refine zSr<|z2 (yb rfl rfl)<|z6<|zd<|zr rfl (fun ck=>?_) (fun ck=>?_)
 ·have hk2 : k < l.length := by omega
  have hmk := hm l[k]
  have hz := hs _ (qu hk2)
  refine zh<|zd<|zi<|zSr<|z2 (zIM k underlying311 sizeOf9 rfl rfl rfl (qq hk2))<|z2 (qa (c := .str _) isAgg9 rfl)<|z2 (q7 (v := .str _) rfl)<|z6<|zd<|zSr<|z2 (yq (v := .str _) rfl)<|zf (zname_spec _ hz hL) rfl<|z2 (yl rfl)<|z2 (zMb rfl)<|zt (s := 16) rfl (fun c1=>?_) (fun c1=>?_)
  ·refine z7 rfl rfl c1<|z7 rfl rfl c1<|z7 rfl rfl c1<|z7 rfl rfl c1<|z2 (zPt rfl c1 rfl)<|z6<|yo rfl rfl<|zSr<|z2 (zAb rfl)<|z6<|zg<|zk (x := .bool _) rfl ?_
   exact jb (w4 fun h => by have h := h k hk2; simp_all).symm
  ·refine z8 rfl rfl c1<|z2 (yq (v := mref _) rfl)<|z8 rfl rfl c1<|z2 (yq (v := .str _) rfl)<|z8 rfl rfl c1<|z2 (Gv.lookup1S underlying343 underlying9 zeroValue3 rfl rfl ⟨_, .head⟩)<|z8 rfl rfl c1<|z2 (q4 rfl rfl)<|z2 (zPf rfl c1 rfl)<|z6<|zz rfl (fun c2=>?_) (fun c2=>?_)
   ·refine zSr<|z2 (zAb rfl)<|z6<|zg<|zk (x := .bool _) rfl ?_
    exact jb (w4 fun h => by have h := h k hk2; simp_all).symm
   ·refine zh<|zRg<|z2 (yq (v := mref _) rfl)<|z2 (yq (v := .str _) rfl)<|z2 (Gv.lookup1S underlying343 underlying9 zeroValue3 rfl rfl ⟨_, .head⟩)<|z2 (Gv.add rfl rfl (by first | (unfold I64; omega) | (unfold I64; rw [hmk]; split <;> omega)))<|AOps.mapSet underlying343 underlying9 rfl rfl rfl .head<|z6<|zRg<|z2 (Gv.add rfl rfl (by first | (unfold I64; omega) | (unfold I64; rw [hmk]; split <;> omega)))<|z2 (zMi rfl)<|z6 ?_
    exact ⟨(k + 1, mset l[k] ((mget l[k] es).getD 0 + 1) es), zR3, zR1, zLe, ⟨hk2, unl_upto hn hk2 (by simpa using c1) (unl_new hmk (by assumption)), fun s => by dsimp only; rw [mget_set, qr hk2, inB_snoc]; exact unl_step (hm s) hmk (by assumption)⟩, by dsimp only; omega⟩
 ·have hkn : k = l.length := by omega
  refine y4<|zSr<|z2 (zAb rfl)<|z6<|zg<|zk (x := .bool _) rfl ?_
  exact jb (w3 fun i h => hn i h (by omega)).symm
theorem map_take {α : Type} {g : α → ByteArray} {l : List α} {k : Nat} (h : k < l.length) : (l.map g).take (k + 1) = (l.map g).take k ++ [g l[k]] := by
 rw [qr (by simpa using h)]; simp
def VNames (f : PFunc) : List ByteArray := f.vars.map PVar.name
def BNames (f : PFunc) : List ByteArray := f.blocks.map PBlock.name
@[simp] theorem vn_len (f : PFunc) : (VNames f).length = f.vars.length := by unfold VNames; simp
@[simp] theorem bn_len (f : PFunc) : (BNames f).length = f.blocks.length := by unfold BNames; simp
theorem vn_take {f : PFunc} {k : Nat} (h : k < f.vars.length) : (VNames f).take (k + 1) = (VNames f).take k ++ [f.vars[k].name] := map_take h
theorem bn_take {f : PFunc} {k : Nat} (h : k < f.blocks.length) : (BNames f).take (k + 1) = (BNames f).take k ++ [f.blocks[k].name] := map_take h
def ParP (f : PFunc) : Prop := ∀ i (h : i < f.params.length), f.params[i] = (i : Int)
instance (f : PFunc) : Decidable (ParP f) := by unfold ParP; infer_instance
def TysP (f : PFunc) : Prop := ∀ i (h : i < f.vars.length), ¬ tyWord f.vars[i].ty = ⟨#[]⟩
instance (f : PFunc) : Decidable (TysP f) := by unfold TysP; infer_instance
def LensP (f : PFunc) : Prop := f.vars.length ≤ 512 ∧ f.params.length ≤ 8 ∧ f.params.length ≤ f.vars.length ∧ 1 ≤ f.blocks.length ∧ f.blocks.length ≤ 64
instance (f : PFunc) : Decidable (LensP f) := by unfold LensP; infer_instance
def NamesP (f : PFunc) : Prop := TysP f ∧ ParP f ∧ LensP f ∧ UnlP (VNames f) ∧ UnlP (BNames f)
instance (f : PFunc) : Decidable (NamesP f) := by unfold NamesP; infer_instance
theorem pnames_spec (f : PFunc) (h1 : f.vars.length ≤ 100000000) (h2 : f.blocks.length ≤ 100000000) (hp : f.params.length ≤ 100000000) (hn : okNames f) (hL : Letters E) : AFun prog E 214 [.agg (encF f)] (.bool (decide (NamesP f))) := by
 have hnv : (VNames f).length = f.vars.length := by unfold VNames; simp
 have hnb : (BNames f).length = f.blocks.length := by unfold BNames; simp
 refine zo func214 rfl (by decide) rfl<|zSr<|y9 (cs := _) rfl rfl rfl<|z2 (zAb rfl)<|z6<|zSr<|z2 (zAr rfl)<|z2 (zAr rfl)<|z6<|adopt_wp (t := 3) (k := 1) (T := 9) rfl<|fun i3 => adopt_wp (t := 4) (k := 1) (T := 9) rfl<|fun i4 => zd<|zSr<|z2 (zFF underlying26 rfl sizeOf22 rfl rfl)<|z2 (zLf isAgg22 rfl)<|z2 (y2 underlying22 rfl)<|z2 (zMi rfl)<|z6<|zi<|y5 (γ := Nat × Nat) [1, 4, 12, 13] (fun g => [(3, .own g.2 g.1), (14, .int .i64 g.1)]) (fun g => [(i4, .grow 1 9 []), (g.2, .grow 1 9 ((((VNames f).take g.1).map encS).flatten))]) (fun g => g.1 ≤ f.vars.length ∧ ∀ i (h : i < f.vars.length), i < g.1 → ¬ tyWord f.vars[i].ty = ⟨#[]⟩) (fun g => f.vars.length - g.1) (0, i3) zR2 zLe (⟨qt _, fun i h h2 => absurd h2 (Nat.not_lt_zero _)⟩) ?_
 rintro ⟨k, i⟩ ⟨hk, hT⟩
 try dsimp only at *
 refine zSr<|z2 (yb rfl rfl)<|z6<|zd<|zr rfl (fun ck=>?_) (fun ck=>?_)
 ·have hk2 : k < f.vars.length := by simp at ck; omega
  refine zh<|zd<|zi<|zSr<|z2 (zIM k underlying22 sizeOf79 rfl rfl rfl (qq hk2))<|z2 (zp isAgg79 sizeOf79 rfl rfl)<|zy (cs := [.str ⟨#[]⟩, .int .i64 0]) zeroValue79 rfl rfl<|fun i6 => zq sizeOf79 rfl rfl rfl rfl rfl rfl .head rfl<|z6<|zSr<|z2 (zMo rfl)<|z2 (ze underlying79 rfl sizeOf9 (by decide) rfl rfl)<|z2 (zl (c := .str _) isAgg9 rfl ⟨_, .head⟩ rfl)<|zw (rows := [[_]]) ps311_1 rfl rfl rfl rfl rfl<|yg (k := 1) underlying311 type9 rfl rfl rfl rfl rfl (fun _ => .t2) (by rw [grow_len (k := 1) (fun _ => rfl), qz]; omega) (by decide) rfl (by show (_ + 1) * 16 ≤ _; omega) (by show _ + 1 ≤ _; omega)<|fun i22 => z2 (zAo rfl)<|z6<|zSr<|z2 (ze underlying79 rfl sizeOf77 (by decide) rfl rfl)<|z2 (zl (c := .int _ _) isAgg77 rfl ⟨_, .head⟩ rfl)<|zf (tyWord_spec _) rfl<|z2 (yy rfl rfl)<|z6<|zr rfl (fun ct=>?_) (fun ct=>?_)
  ·refine zSr<|z2 (zAb rfl)<|z6<|zg<|zk (x := .bool _) rfl ?_
   exact jb (w4 fun h => h.1 k hk2 (by simpa using ct)).symm
  ·refine zh<|zRg<|z2 (zAd rfl rfl)<|z2 (zMi rfl)<|z6 ?_
   exact ⟨(k + 1, i22), zR4, zR2, ⟨_, (.drop (.refl _)), by dsimp only; rw [← grow_push (enc := encS) (vn_take hk2)]; rfl⟩, ⟨hk2, fun i h h2 => by by_cases e : i = k; (subst e; simpa using ct); exact hT i h (by dsimp only at h2; omega)⟩, by dsimp only; omega⟩
 ·have hkn : k = f.vars.length := by simp at ck; omega
  subst hkn
  rw [List.take_of_length_le (by omega : (VNames f).length ≤ f.vars.length)]
  have hTys : TysP f := fun i h => hT i h h
  refine y4<|zd<|zSr<|z2 (zFF underlying26 rfl sizeOf24 rfl rfl)<|z2 (zLf isAgg24 rfl)<|z2 (y2 underlying24 rfl)<|z2 (zMi rfl)<|z6<|zi<|y5 (γ := Nat × Nat) [1, 3, 29, 30] (fun g => [(4, .own g.2 g.1), (31, .int .i64 g.1)]) (fun g => [(g.2, .grow 1 9 ((((BNames f).take g.1).map encS).flatten)), (i, .grow 1 9 (((VNames f).map encS).flatten))]) (fun g => g.1 ≤ f.blocks.length) (fun g => f.blocks.length - g.1) (0, i4) zR2 zLe (qt _) ?_
  rintro ⟨k, j⟩ hk
  try dsimp only at *
  refine zSr<|z2 (yb rfl rfl)<|z6<|zd<|zr rfl (fun ck=>?_) (fun ck=>?_)
  ·have hk2 : k < f.blocks.length := by simp at ck; omega
   refine zh<|zd<|zi<|zSr<|z2 (zIM k underlying24 sizeOf58 rfl rfl rfl (qq hk2))<|z2 (zp isAgg58 sizeOf58 rfl rfl)<|zy (cs := [.str ⟨#[]⟩, .raw (.slice none 0 0), .raw (.slice none 0 0), .int .i64 0, .int .i64 0, .int .i64 0, .int .i64 0]) zeroValue58 rfl rfl<|fun i8 => zq sizeOf58 rfl rfl rfl rfl rfl rfl .head rfl<|z6<|zRg<|z2 (zMo rfl)<|z2 (ze underlying58 rfl sizeOf9 (by decide) rfl rfl)<|z2 (zl (c := .str _) isAgg9 rfl ⟨_, .head⟩ rfl)<|zw (rows := [[_]]) ps311_1 rfl rfl rfl rfl rfl<|yg (k := 1) underlying311 type9 rfl rfl rfl rfl rfl (fun _ => .t1) (by rw [grow_len (k := 1) (fun _ => rfl), qz]; omega) (by decide) rfl (by show (_ + 1) * 16 ≤ _; omega) (by show _ + 1 ≤ _; omega)<|fun i39 => z2 (zAo rfl)<|z6<|zRg<|z2 (zAd rfl rfl)<|z2 (zMi rfl)<|z6 ?_
   exact ⟨(k + 1, i39), zR4, zR2, ⟨_, (.drop (.refl _)), by dsimp only; rw [← grow_push (enc := encS) (bn_take hk2)]; rfl⟩, hk2, by dsimp only; omega⟩
  ·have hkn : k = f.blocks.length := by simp at ck; omega
   subst hkn
   rw [List.take_of_length_le (by omega : (BNames f).length ≤ f.blocks.length)]
   refine y4<|zd<|zSr<|z2 (zFF underlying26 rfl sizeOf23 rfl rfl)<|z2 (zLf isAgg23 rfl)<|z2 (y2 underlying23 rfl)<|z2 (zMi rfl)<|z6<|zi<|y5 (γ := Nat) [1, 3, 4, 42, 43] (fun k => [(44, .int .i64 k)]) (fun k => [(j, .grow 1 9 (((BNames f).map encS).flatten)), (i, .grow 1 9 (((VNames f).map encS).flatten))]) (fun k => k ≤ f.params.length ∧ ∀ i (h : i < f.params.length), i < k → f.params[i] = (i : Int)) (fun k => f.params.length - k) 0 zR1 zLe (⟨qt _, fun i h h2 => absurd h2 (Nat.not_lt_zero _)⟩) ?_
   rintro k ⟨hk, hP⟩
   refine zSr<|z2 (yb rfl rfl)<|z6<|zd<|zr rfl (fun ck=>?_) (fun ck=>?_)
   ·have hk2 : k < f.params.length := by simp at ck; omega
    refine zh<|zd<|zi<|zSr<|z2 (zMi rfl)<|z2 (zIM k underlying23 sizeOf3 rfl rfl rfl (qq hk2))<|z2 (zLi isAgg3 rfl)<|z2 (zAi rfl)<|z2 (zAi rfl)<|z6<|zSr<|z2 (zMi rfl)<|z2 (zMi rfl)<|z2 (yj rfl rfl)<|z6<|zz rfl (fun cp=>?_) (fun cp=>?_)
    ·refine zSr<|z2 (zAb rfl)<|z6<|zg<|zk (x := .bool _) rfl ?_
     exact jb (w4 fun h => by have := h.2.1 k hk2; simp [this] at cp).symm
    ·refine zh<|zRg<|z2 (zAd rfl rfl)<|z2 (zMi rfl)<|z6 ?_
     exact ⟨k + 1, zR5, zR1, zLe, ⟨hk2, fun i h h2 => by by_cases e : i = k; (subst e; simpa using cp); exact hP i h (by omega)⟩, by omega⟩
   ·have hkn : k = f.params.length := by simp at ck; omega
    subst hkn
    have hPar : ParP f := fun i h => hP i h h
    refine yc (GStep.know (t := 3) (rows := (VNames f).map encS) rfl .t1 (by intro r hr; obtain ⟨x, _, rfl⟩ := List.mem_map.1 hr; rfl) (by decide) (by simp))<|yc (GStep.know (t := 4) (rows := (BNames f).map encS) rfl .head (by intro r hr; obtain ⟨x, _, rfl⟩ := List.mem_map.1 hr; rfl) (by decide) (by simp))<|y4<|zSr<|z2 (zMf rfl)<|z2 (y2 underlying311 rfl)<|z2 (Gv.leq rfl rfl)<|z2 (zMb rfl)<|zt (s := 56) rfl (fun c3=>?_) (fun c3=>?_)
    ·refine z8 rfl rfl c3<|z2 (zFF underlying26 rfl sizeOf23 rfl rfl)<|z8 rfl rfl c3<|z2 (zLf isAgg23 rfl)<|z8 rfl rfl c3<|z2 (y2 underlying23 rfl)<|z8 rfl rfl c3<|z2 (zMf rfl)<|z8 rfl rfl c3<|z2 (y2 underlying311 rfl)<|z8 rfl rfl c3<|z2 (Gv.minI rfl rfl)<|z8 rfl rfl c3<|z2 (Gv.leq rfl rfl)<|z2 (zPt rfl c3 rfl)<|z2 (zMb rfl)<|zt (s := 65) rfl (fun c4=>?_) (fun c4=>?_)
     ·refine z8 rfl rfl c4<|z2 (zMf rfl)<|z8 rfl rfl c4<|z2 (y2 underlying311 rfl)<|z8 rfl rfl c4<|z2 (q6 rfl rfl)<|z2 (zPt rfl c4 rfl)<|z2 (zMb rfl)<|zt (s := 70) rfl (fun c5=>?_) (fun c5=>?_)
      ·refine z8 rfl rfl c5<|z2 (zMf rfl)<|z8 rfl rfl c5<|z2 (y2 underlying311 rfl)<|z8 rfl rfl c5<|z2 (Gv.leq rfl rfl)<|z2 (zPt rfl c5 rfl)<|z2 (zMb rfl)<|zt (s := 75) rfl (fun c6=>?_) (fun c6=>?_)
       ·refine z8 rfl rfl c6<|z2 (zMf rfl)<|z8 rfl rfl c6<|zf (unlike_spec (VNames f) (by omega) (fun s hs => by obtain ⟨v, hv, rfl⟩ := List.mem_map.1 hs; exact hn.1 v hv) hL) rfl<|z2 (zPt rfl c6 rfl)<|z2 (zMb rfl)<|zt (s := 79) rfl (fun c7=>?_) (fun c7=>?_)
        ·refine z8 rfl rfl c7<|z2 (zMf rfl)<|z8 rfl rfl c7<|zf (unlike_spec (BNames f) (by omega) (fun s hs => by obtain ⟨v, hv, rfl⟩ := List.mem_map.1 hs; exact hn.2 v hv) hL) rfl<|z2 (zPt rfl c7 rfl)<|z2 (zAb rfl)<|z6<|zg<|zk (x := .bool _) rfl ?_
         exact jb (by unfold NamesP LensP; simp_all <;> grind)
        ·refine z7 rfl rfl c7<|z7 rfl rfl c7<|z2 (zPf rfl c7 rfl)<|z2 (zAb rfl)<|z6<|zg<|zk (x := .bool _) rfl ?_
         exact jb (by unfold NamesP LensP; simp_all <;> grind)
       ·refine z7 rfl rfl c6<|z7 rfl rfl c6<|z2 (zPf rfl c6 rfl)<|z2 (zMb rfl)<|z7 rfl rfl rfl<|z7 rfl rfl rfl<|z2 (zPf rfl rfl rfl)<|z2 (zAb rfl)<|z6<|zg<|zk (x := .bool _) rfl ?_
        exact jb (by unfold NamesP LensP; simp_all <;> grind)
      ·refine z7 rfl rfl c5<|z7 rfl rfl c5<|z7 rfl rfl c5<|z2 (zPf rfl c5 rfl)<|z2 (zMb rfl)<|z7 rfl rfl rfl<|z7 rfl rfl rfl<|z2 (zPf rfl rfl rfl)<|z2 (zMb rfl)<|z7 rfl rfl rfl<|z7 rfl rfl rfl<|z2 (zPf rfl rfl rfl)<|z2 (zAb rfl)<|z6<|zg<|zk (x := .bool _) rfl ?_
       exact jb (by unfold NamesP LensP; simp_all <;> grind)
     ·refine z7 rfl rfl c4<|z7 rfl rfl c4<|z7 rfl rfl c4<|z2 (zPf rfl c4 rfl)<|z2 (zMb rfl)<|z7 rfl rfl rfl<|z7 rfl rfl rfl<|z7 rfl rfl rfl<|z2 (zPf rfl rfl rfl)<|z2 (zMb rfl)<|z7 rfl rfl rfl<|z7 rfl rfl rfl<|z2 (zPf rfl rfl rfl)<|z2 (zMb rfl)<|z7 rfl rfl rfl<|z7 rfl rfl rfl<|z2 (zPf rfl rfl rfl)<|z2 (zAb rfl)<|z6<|zg<|zk (x := .bool _) rfl ?_
      exact jb (by unfold NamesP LensP; simp_all <;> grind)
    ·refine z7 rfl rfl c3<|z7 rfl rfl c3<|z7 rfl rfl c3<|z7 rfl rfl c3<|z7 rfl rfl c3<|z7 rfl rfl c3<|z7 rfl rfl c3<|z2 (zPf rfl c3 rfl)<|z2 (zMb rfl)<|z7 rfl rfl rfl<|z7 rfl rfl rfl<|z7 rfl rfl rfl<|z2 (zPf rfl rfl rfl)<|z2 (zMb rfl)<|z7 rfl rfl rfl<|z7 rfl rfl rfl<|z7 rfl rfl rfl<|z2 (zPf rfl rfl rfl)<|z2 (zMb rfl)<|z7 rfl rfl rfl<|z7 rfl rfl rfl<|z2 (zPf rfl rfl rfl)<|z2 (zMb rfl)<|z7 rfl rfl rfl<|z7 rfl rfl rfl<|z2 (zPf rfl rfl rfl)<|z2 (zAb rfl)<|z6<|zg<|zk (x := .bool _) rfl ?_
     exact jb (by unfold NamesP LensP; simp_all <;> grind)
def phiOK (f : PFunc) (p : PPhi) : Bool := !decide (p.args.length = 0) && decide (p.args.length = p.from_.length) && hasV f p.dst && p.args.all (hasV f) && p.from_.all (hasB f)
theorem phi1_spec (f : PFunc) (v : Int) : AFun prog E 258 ([.int .i64 v] ++ [.pf (encF f)]) (.bool (!hasB f v)) := by
 refine zo func258 rfl (by decide) rfl<|zSr<|z2 (zAb rfl)<|z6<|zSr<|z2 (zp isAgg26 sizeOf26 rfl rfl)<|z2 (zMi rfl)<|zf (at_spec _ _) rfl<|z2 (yl rfl)<|z2 (zAb rfl)<|z6<|zg<|zk (x := .bool _) rfl ?_
 rfl
theorem phi_spec (f : PFunc) (p : PPhi) (hp : okPhi p) : AFun prog E 217 [.agg (encF f), .agg (encPhi p)] (.bool (phiOK f p)) := by
 have hl1 := hp.1.lt
 have hl2 := hp.2.lt
 refine zo func217 rfl (by decide) rfl<|zSr<|y9 (cs := _) rfl rfl rfl<|y9 (cs := _) rfl rfl rfl<|z2 (zAb rfl)<|z6<|zd<|zSr<|z2 (zFF underlying81 rfl sizeOf23 rfl rfl)<|z2 (zLf isAgg23 rfl)<|z2 (y2 underlying23 rfl)<|z2 (y7 rfl rfl)<|z2 (zMb rfl)<|zt (s := 9) rfl (fun c8=>?_) (fun c8=>?_)
 ·refine z7 rfl rfl c8<|z7 rfl rfl c8<|z7 rfl rfl c8<|z7 rfl rfl c8<|z7 rfl rfl c8<|z7 rfl rfl c8<|z7 rfl rfl c8<|z2 (zPt rfl c8 rfl)<|z2 (zMb rfl)<|z7 rfl rfl rfl<|z7 rfl rfl rfl<|z7 rfl rfl rfl<|z7 rfl rfl rfl<|z7 rfl rfl rfl<|z2 (zPt rfl rfl rfl)<|z2 (zMb rfl)<|z7 rfl rfl rfl<|z7 rfl rfl rfl<|z7 rfl rfl rfl<|z7 rfl rfl rfl<|z7 rfl rfl rfl<|z2 (zPt rfl rfl rfl)<|z6<|yo rfl rfl<|zSr<|z2 (zAb rfl)<|z6<|zg<|zk (x := .bool _) rfl ?_
  exact jb (by have := List.any_eq_not_all_not (l := p.from_) (p := fun x => !hasB f x); simp_all [phiOK, Int.ofNat_inj] <;> grind)
 ·refine z8 rfl rfl c8<|z2 (zFF underlying81 rfl sizeOf23 rfl rfl)<|z8 rfl rfl c8<|z2 (zLf isAgg23 rfl)<|z8 rfl rfl c8<|z2 (y2 underlying23 rfl)<|z8 rfl rfl c8<|z2 (zFF underlying81 rfl sizeOf23 rfl rfl)<|z8 rfl rfl c8<|z2 (zLf isAgg23 rfl)<|z8 rfl rfl c8<|z2 (y2 underlying23 rfl)<|z8 rfl rfl c8<|z2 (yj rfl rfl)<|z2 (zPf rfl c8 rfl)<|z2 (zMb rfl)<|zt (s := 18) rfl (fun c9=>?_) (fun c9=>?_)
  ·refine z7 rfl rfl c9<|z7 rfl rfl c9<|z7 rfl rfl c9<|z7 rfl rfl c9<|z7 rfl rfl c9<|z2 (zPt rfl c9 rfl)<|z2 (zMb rfl)<|z7 rfl rfl rfl<|z7 rfl rfl rfl<|z7 rfl rfl rfl<|z7 rfl rfl rfl<|z7 rfl rfl rfl<|z2 (zPt rfl rfl rfl)<|z6<|yo rfl rfl<|zSr<|z2 (zAb rfl)<|z6<|zg<|zk (x := .bool _) rfl ?_
   exact jb (by have := List.any_eq_not_all_not (l := p.from_) (p := fun x => !hasB f x); simp_all [phiOK, Int.ofNat_inj] <;> grind)
  ·refine z8 rfl rfl c9<|z2 (zp isAgg26 sizeOf26 rfl rfl)<|z8 rfl rfl c9<|z2 (zFF underlying81 rfl sizeOf3 rfl rfl)<|z8 rfl rfl c9<|z2 (zLi isAgg3 rfl)<|z8 rfl rfl c9<|zf (has_spec _ _) rfl<|z8 rfl rfl c9<|z2 (yl rfl)<|z2 (zPf rfl c9 rfl)<|z2 (zMb rfl)<|zt (s := 25) rfl (fun c10=>?_) (fun c10=>?_)
   ·refine z7 rfl rfl c10<|z7 rfl rfl c10<|z7 rfl rfl c10<|z7 rfl rfl c10<|z7 rfl rfl c10<|z2 (zPt rfl c10 rfl)<|z6<|yo rfl rfl<|zSr<|z2 (zAb rfl)<|z6<|zg<|zk (x := .bool _) rfl ?_
    exact jb (by have := List.any_eq_not_all_not (l := p.from_) (p := fun x => !hasB f x); simp_all [phiOK, Int.ofNat_inj] <;> grind)
   ·refine z8 rfl rfl c10<|z2 (zp isAgg26 sizeOf26 rfl rfl)<|z8 rfl rfl c10<|z2 (zFF underlying81 rfl sizeOf23 rfl rfl)<|z8 rfl rfl c10<|z2 (zLf isAgg23 rfl)<|z8 rfl rfl c10<|zf (vars_spec f p.args (by omega)) rfl<|z8 rfl rfl c10<|z2 (yl rfl)<|z2 (zPf rfl c10 rfl)<|z6<|zz rfl (fun c11=>?_) (fun c11=>?_)
    ·refine zSr<|z2 (zAb rfl)<|z6<|zg<|zk (x := .bool _) rfl ?_
     exact jb (by have := List.any_eq_not_all_not (l := p.from_) (p := fun x => !hasB f x); simp_all [phiOK, Int.ofNat_inj] <;> grind)
    ·refine zh<|zSr<|z2 (zFF underlying81 rfl sizeOf23 rfl rfl)<|z2 (zLf isAgg23 rfl)<|z2 (Gv.func rfl rfl)<|zf (containsFuncI_spec p.from_ (by omega) (phi1_spec f)) rfl<|z2 (yl rfl)<|z2 (zAb rfl)<|z6<|zg<|zk (x := .bool _) rfl ?_
     exact jb (by have := List.any_eq_not_all_not (l := p.from_) (p := fun x => !hasB f x); simp_all [phiOK, Int.ofNat_inj] <;> grind)
end Go.Proofs.YtiojekbkamegdaaGreatDoor
