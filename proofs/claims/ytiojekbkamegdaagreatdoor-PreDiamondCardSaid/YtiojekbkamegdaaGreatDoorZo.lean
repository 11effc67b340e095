/- The rounds of ranges stop soon. Plain law. No conditions but int64s. -/
import Derived.Test.YtiojekbkamegdaaGreatDoorZh
import Derived.Test.YtiojekbkamegdaaGreatDoorZn
import Derived.Test.YtiojekbkamegdaaGreatDoorZe
import Derived.Test.YtiojekbkamegdaaGreatDoorZm
import Derived.Test.YtiojekbkamegdaaGreatDoorZl
import Derived.Test.YtiojekbkamegdaaGreatDoorZc
set_option linter.unusedVariables false
set_option linter.unusedSimpArgs false
set_option linter.unusedSectionVars false
namespace Go.Proofs.YtiojekbkamegdaaGreatDoor
open Go.Proofs.Tryz
open Go.Proofs Go.Lib Go.Shelf Go.RowKit
set_option maxRecDepth 20000
variable {E : World}
def blkI (i : Nat) (b : PBlock) : List AV := [.str b.name, .fro 3 (b.phis.map encPhi), .own i b.insts.length, .int .i64 b.term.kind, .int .i64 b.term.var, .int .i64 b.term.to0, .int .i64 b.term.to1]
def blkIs (ids : List Nat) (bs : List PBlock) : List AV := (List.zipWith blkI ids bs).flatten
def insO (i : Nat) (b : PBlock) : Nat × AObj := (i, .grow 4 61 (b.insts.map encInst).flatten)
def bagIs (ids : List Nat) (bs : List PBlock) : OL := List.zipWith insO ids bs
theorem zip_push {α β γ : Type} (g : α → β → γ) {xs : List α} {ys : List β} {k : Nat} (a : α) (h : xs.length = k) (hk : k < ys.length) : List.zipWith g (xs ++ [a]) (ys.take (k + 1)) = List.zipWith g xs (ys.take k) ++ [g a ys[k]] := by
 rw [qr hk, List.zipWith_append (by rw [qz]; omega)]; rfl
theorem blkIs_push {ids : List Nat} {bs : List PBlock} {k : Nat} (a : Nat) (h : ids.length = k) (hk : k < bs.length) : blkIs ids (bs.take k) ++ [blkI a bs[k]].flatten = blkIs (ids ++ [a]) (bs.take (k + 1)) := by
 unfold blkIs; rw [zip_push blkI a h hk, List.flatten_append]
theorem bagIs_push {ids : List Nat} {bs : List PBlock} {k : Nat} (a : Nat) (h : ids.length = k) (hk : k < bs.length) : (insO a bs[k] :: bagIs ids (bs.take k)).Perm (bagIs (ids ++ [a]) (bs.take (k + 1))) := by
 unfold bagIs; rw [zip_push insO a h hk]; exact (List.perm_append_comm (l₁ := [_])) 
theorem blkIs_len : ∀ {ids : List Nat} {bs : List PBlock}, ids.length = bs.length → (blkIs ids bs).length = bs.length * 7
 | [], [], _ => rfl
 | i :: ids, b :: bs, h => by
  have := blkIs_len (ids := ids) (bs := bs) (by simpa using h)
  unfold blkIs at this ⊢
  rw [List.zipWith_cons_cons, List.flatten_cons, qw, this, List.length_cons, Nat.add_mul]
  show 7 + _ = _
  omega
theorem blkIs_cons (i : Nat) (ids : List Nat) (b : PBlock) (bs : List PBlock) : blkIs (i :: ids) (b :: bs) = blkI i b ++ blkIs ids bs := by unfold blkIs; rw [List.zipWith_cons_cons, List.flatten_cons]
theorem blkIs_drop : ∀ {ids : List Nat} {bs : List PBlock} {p i : Nat} {b : PBlock}, ids[p]? = some i → bs[p]? = some b → (blkIs ids bs).drop (p * 7 + 2) = .own i b.insts.length :: (blkIs ids bs).drop (p * 7 + 3)
 | [], _, p, _, _, h, _ => by simp at h
 | _ :: _, [], p, _, _, _, h => by simp at h
 | j :: ids, c :: bs, 0, i, b, h1, h2 => by
  simp at h1 h2
  subst h1 h2
  rw [blkIs_cons]; rfl
 | j :: ids, c :: bs, p + 1, i, b, h1, h2 => by
  have h := blkIs_drop (ids := ids) (bs := bs) (p := p) (i := i) (b := b) (by simpa using h1) (by simpa using h2)
  rw [blkIs_cons, show (p + 1) * 7 + 2 = (p * 7 + 2) + 7 by omega, show (p + 1) * 7 + 3 = (p * 7 + 3) + 7 by omega]
  exact h
theorem blkIs_row : ∀ {ids : List Nat} {bs : List PBlock} {p i : Nat} {b : PBlock}, ids[p]? = some i → bs[p]? = some b → ((blkIs ids bs).drop (p * 7)).take 7 = blkI i b
 | [], _, p, _, _, h, _ => by simp at h
 | _ :: _, [], p, _, _, _, h => by simp at h
 | j :: ids, c :: bs, 0, i, b, h1, h2 => by
  simp at h1 h2
  subst h1 h2
  rw [blkIs_cons]; rfl
 | j :: ids, c :: bs, p + 1, i, b, h1, h2 => by
  have h := blkIs_row (ids := ids) (bs := bs) (p := p) (i := i) (b := b) (by simpa using h1) (by simpa using h2)
  rw [blkIs_cons, show (p + 1) * 7 = (p * 7) + 7 by omega]
  exact h
theorem blkIs_set : ∀ {ids : List Nat} {bs : List PBlock} {p : Nat} {b : PBlock} (i : Nat) (l : List PInst), p < ids.length → bs[p]? = some b → (blkIs ids bs).set (p * 7 + 2) (.own i l.length) = blkIs (ids.set p i) (bs.set p { b with insts := l })
 | [], _, p, _, _, _, h, _ => by simp at h
 | _ :: _, [], p, _, _, _, _, h => by simp at h
 | j :: ids, c :: bs, 0, b, i, l, h1, h2 => by
  simp at h2
  subst h2
  rw [blkIs_cons]
  show _ = blkIs (i :: ids) (_ :: bs)
  rw [blkIs_cons]; rfl
 | j :: ids, c :: bs, p + 1, b, i, l, h1, h2 => by
  have h := blkIs_set (ids := ids) (bs := bs) (p := p) (b := b) i l (by simpa using h1) (by simpa using h2)
  show _ = blkIs (j :: ids.set p i) (c :: bs.set p _)
  rw [blkIs_cons, blkIs_cons, show (p + 1) * 7 + 2 = (p * 7 + 2) + 7 by omega, ← h]
  rfl
theorem blkIs_know : ∀ {ids : List Nat} {bs : List PBlock} {I J : G} {L : List (Nat × Obj)} {vs : List Value}, ids.length = bs.length → I.le J → RepOs I (bagIs ids bs) L → (∀ x ∈ L, J.k x.1 = some x.2) → RepL I (blkIs ids bs) vs → RepL J (bs.map encBlk).flatten vs
 | [], [], _, _, _, _, _, _, _, _, h => h
 | i :: ids, b :: bs, I, J, L, vs, hl, hle, hL, hJ, h => by
  obtain ⟨A, B, rfl, hA, hB⟩ := hL
  rw [blkIs_cons] at h
  obtain ⟨v1, v2, rfl, h1, h2⟩ := h.cut
  have h3 := blkIs_know (by simpa using hl) hle hB (fun x hx => hJ x (List.mem_append_right _ hx)) h2
  rw [List.map_cons, List.flatten_cons]
  refine RepL.append ?_ h3
  obtain ⟨a1, u1, e1, r1, a2, u2, e2, r2, a3, u3, e3, r3, r4⟩ := h1
  have h4 := own_fro (J := J) (rows := b.insts.map encInst) (fun r hr => by obtain ⟨z, _, rfl⟩ := List.mem_map.1 hr; rfl) (by decide) hA hle (fun x hx => hJ x (List.mem_append_left _ hx)) (v := a3) (by rw [qx]; exact r3)
  exact ⟨a1, u1, e1, qg hle _ _ r1, a2, u2, e2, qg hle _ _ r2, a3, u3, e3, h4, qd hle _ _ r4⟩
theorem AOps.storeGN {P : Program} {ops : Array Oper} {K : AEnv → OL → Prop} {env : AEnv} {O O' : OL} {rest : List Oper} {ty : Nat} {pos : String} {af : Array Edge} {x y : Operand} {t : TypeId} {i off k : Nat} {T : TypeId} {v : AV} {cs new : List AV} (hs : ∀ w, (sizeOf t).run P w = .ok 1 w) (hx : aev env x = .po i off) (hy : aev env y = v) (hv : v.sto = true) (hl : v.cs = [v]) (hl1 : v.cell = true)
  (hO : Put O i (.grow k T cs) (.grow k T new) O') (hb : off < cs.length) (hnew : cs.set off v = new) (kk : AOps P E ops K rest env O') : AOps P E ops K (Oper.mk none (.store t x y) ty pos af none :: rest) env O := by
 subst hnew; exact AOps.storeG1 hs hx hy hv hl hl1 hO hb kk
set_option maxHeartbeats 4000000 in
theorem copyI_own (f : PFunc) (hf : small f) : ACall prog E 41 [.agg (encF f)] [] (fun x O' => ∃ g : Nat × List Nat, x = .agg [.fro 2 (f.vars.map encVar), .fro 1 (f.params.map encI), .own g.1 f.blocks.length] ∧ O' = [(g.1, .grow 7 58 (blkIs g.2 f.blocks)), (0, bag (bagIs g.2 f.blocks))] ∧ g.2.length = f.blocks.length) := by
 refine ACall.exact (γ := Nat × List Nat) (x := fun g => .agg [.fro 2 (f.vars.map encVar), .fro 1 (f.params.map encI), .own g.1 f.blocks.length]) (M := fun g => [(g.1, .grow 7 58 (blkIs g.2 f.blocks)), (0, bag (bagIs g.2 f.blocks))]) (p := fun g => g.2.length = f.blocks.length) ?_
 obtain ⟨hf1, hf2, hf3, hf4, hf5⟩ := hf
 refine zo func41 rfl (by decide) rfl<|zSr<|y9 (cs := _) rfl rfl rfl<|zy (cs := [.raw (.slice none 0 0), .raw (.slice none 0 0), .raw (.slice none 0 0)]) zeroValue26 rfl rfl<|fun i2 => z6<|zd<|yp (γ := Nat) [1, 2] (fun i => [(3, .po i 0)]) (fun i => [(i, .cells 26 [.fro 2 (f.vars.map encVar), .fro 1 (f.params.map encI), .raw (.slice none 0 0)]), (i2, .cells 26 [.raw (.slice none 0 0), .raw (.slice none 0 0), .raw (.slice none 0 0)])]) (fun i => True) ?_ (fun _ _ h => h) ?_
 ·refine zu (fun j => Nat.beq j 8) (by kernel_rfl) rfl (zm (.rest _))<|zTk 0 rfl (zFF underlying26 rfl sizeOf22 rfl rfl)<|zTk 1 rfl (zLf isAgg22 rfl)<|zTk 3 rfl (zFF underlying26 rfl sizeOf23 rfl rfl)<|zTk 4 rfl (zLf isAgg23 rfl)<|yh (i := 2) (j := 7) rfl rfl (by kernel_rfl) ?_ ?_
  ·refine zf (cloneV_spec _ (by omega)) rfl<|z6<|yh (i := 5) (j := 7) rfl rfl (by kernel_rfl) ?_ ?_
   ·refine zf (cloneI_spec _ (by omega)) rfl<|z6<|zTk 6 rfl (zx (cps := [(0, [_]), (1, [_])]) (rs := [_, _, .raw (.slice none 0 0)]) pl26 rfl rfl rfl)<|zOn 7 rfl<|zy (cs := [.raw (.slice none 0 0), .raw (.slice none 0 0), .raw (.slice none 0 0)]) zeroValue26 rfl rfl<|fun i3 => z6<|y8<|ya (i := 8) rfl (by kernel_rfl) (by kernel_rfl)<|zq sizeOf26 rfl rfl rfl rfl rfl rfl .head rfl<|z6<|yd (by kernel_rfl) ?_
    exact ⟨i3, zR2, zR1, zLe, trivial⟩
   ·refine zy (cs := [.raw (.slice none 0 0), .raw (.slice none 0 0), .raw (.slice none 0 0)]) zeroValue26 rfl rfl<|fun i3 => z6<|zOn 5 rfl<|zf (cloneI_spec _ (by omega)) rfl<|z6<|zTk 6 rfl (zx (cps := [(0, [_]), (1, [_])]) (rs := [_, _, .raw (.slice none 0 0)]) pl26 rfl rfl rfl)<|y8<|ya (i := 8) rfl (by kernel_rfl) (by kernel_rfl)<|zq sizeOf26 rfl rfl rfl rfl rfl rfl .head rfl<|z6<|yd (by kernel_rfl) ?_
    exact ⟨i3, zR2, zR1, zLe, trivial⟩
  ·refine zy (cs := [.raw (.slice none 0 0), .raw (.slice none 0 0), .raw (.slice none 0 0)]) zeroValue26 rfl rfl<|fun i3 => z6<|zOn 2 rfl<|zf (cloneV_spec _ (by omega)) rfl<|z6<|zOn 5 rfl<|zf (cloneI_spec _ (by omega)) rfl<|z6<|zTk 6 rfl (zx (cps := [(0, [_]), (1, [_])]) (rs := [_, _, .raw (.slice none 0 0)]) pl26 rfl rfl rfl)<|y8<|ya (i := 8) rfl (by kernel_rfl) (by kernel_rfl)<|zq sizeOf26 rfl rfl rfl rfl rfl rfl .head rfl<|z6<|yd (by kernel_rfl) ?_
   exact ⟨i3, zR2, zR1, zLe, trivial⟩
 ·rintro i3 _
  refine zd<|zSr<|z2 (zFF underlying26 rfl sizeOf24 rfl rfl)<|z2 (zLf isAgg24 rfl)<|z2 (y2 underlying24 rfl)<|z2 (zMi rfl)<|z6<|adoptC_wp (off := 2) (k := 7) (T := 58) (fun _ => .head) rfl<|fun ib => yc GStep.bagNew<|yc (za (zb .t1))<|zi<|y5 (γ := Nat × Nat × List Nat) [2, 3, 19, 20] (fun g => [(21, .int .i64 g.1)]) (fun g => [(g.2.1, .grow 7 58 (blkIs g.2.2 (f.blocks.take g.1))), (0, bag (bagIs g.2.2 (f.blocks.take g.1))), (i3, .cells 26 [.fro 2 (f.vars.map encVar), .fro 1 (f.params.map encI), .own g.2.1 g.1]), (i2, .cells 26 [.raw (.slice none 0 0), .raw (.slice none 0 0), .raw (.slice none 0 0)])]) (fun g => g.1 ≤ f.blocks.length ∧ g.2.2.length = g.1) (fun g => f.blocks.length - g.1) (0, ib, []) zR1 zLe (⟨qt _, rfl⟩) ?_
  rintro ⟨k, ib, ids⟩ ⟨hk, hids⟩
  try dsimp only at *
  refine zSr<|z2 (yb rfl rfl)<|z6<|zd<|zr rfl (fun ck=>?_) (fun ck=>?_)
  ·have hk2 : k < f.blocks.length := by omega
   obtain ⟨hb0, hb1, hb2, hb3, hb4⟩ := hf5 _ (qu hk2)
   refine zh<|zd<|zi<|zSr<|z2 (q5 underlying24 sizeOf58 rfl rfl rfl (qq (by omega)))<|z2 (zp isAgg58 sizeOf58 rfl rfl)<|zy (cs := [.str ⟨#[]⟩, .raw (.slice none 0 0), .raw (.slice none 0 0), .int .i64 0, .int .i64 0, .int .i64 0, .int .i64 0]) zeroValue58 rfl rfl<|fun i5 => zq sizeOf58 rfl rfl rfl rfl rfl rfl .head rfl<|z6<|zSr<|z2 (ze underlying58 rfl sizeOf9 (by decide) rfl rfl)<|z2 (zl (c := .str _) isAgg9 rfl ⟨_, .head⟩ rfl)<|z2 (ze underlying58 rfl sizeOf56 (by decide) rfl rfl)<|z2 (Gv.loadAC (l := [_, _, _, _]) isAgg56 sizeOf56 rfl ⟨_, .head⟩ rfl rfl)<|z2 (zx (cps := [(0, [_]), (3, [_, _, _, _])]) (rs := [_, .raw (.slice none 0 0), .raw (.slice none 0 0), _, _, _, _]) pl58 rfl rfl rfl)<|zy (cs := [.str ⟨#[]⟩, .raw (.slice none 0 0), .raw (.slice none 0 0), .int .i64 0, .int .i64 0, .int .i64 0, .int .i64 0]) zeroValue58 rfl rfl<|fun i6 => zq sizeOf58 rfl rfl rfl rfl rfl rfl .head rfl<|z6<|zd<|zSr<|z2 (ze underlying58 rfl sizeOf51 (by decide) rfl rfl)<|z2 (zl (c := .fro _ _) isAgg51 rfl ⟨_, .t1⟩ rfl)<|z2 (y2 underlying51 rfl)<|z2 (zMi rfl)<|z6<|adoptC_wp (off := 1) (k := 3) (T := 81) (fun _ => .head) rfl<|fun ip => yc (za (zb .t1))<|zi<|y5 (γ := Nat × Nat) [2, 3, 5, 6, 19, 20, 21, 31, 32] (fun g => [(33, .int .i64 g.1)]) (fun g => [(i6, .cells 58 [.str f.blocks[k].name, .own g.2 g.1, .raw (.slice none 0 0), .int .i64 f.blocks[k].term.kind, .int .i64 f.blocks[k].term.var, .int .i64 f.blocks[k].term.to0, .int .i64 f.blocks[k].term.to1]), (g.2, .grow 3 81 ((f.blocks[k].phis.take g.1).map encPhi).flatten), (i5, .cells 58 (encBlk f.blocks[k])), (ib, .grow 7 58 (blkIs ids (f.blocks.take k))), (0, bag (bagIs ids (f.blocks.take k))), (i3, .cells 26 [.fro 2 (f.vars.map encVar), .fro 1 (f.params.map encI), .own ib k]), (i2, .cells 26 [.raw (.slice none 0 0), .raw (.slice none 0 0), .raw (.slice none 0 0)])]) (fun g => g.1 ≤ f.blocks[k].phis.length) (fun g => f.blocks[k].phis.length - g.1) (0, ip) zR1 zLe (qt _) ?_
   rintro ⟨m, ip⟩ hm
   try dsimp only at *
   refine zSr<|z2 (yb rfl rfl)<|z6<|zd<|zr rfl (fun cm=>?_) (fun cm=>?_)
   ·have hm2 : m < f.blocks[k].phis.length := by omega
    obtain ⟨hp1, hp2⟩ := hb3 _ (qu hm2)
    refine zh<|zd<|zi<|zSr<|z2 (q5 underlying51 sizeOf81 rfl rfl rfl (qq (by omega)))<|z2 (zp isAgg81 sizeOf81 rfl rfl)<|zy (cs := [.int .i64 0, .raw (.slice none 0 0), .raw (.slice none 0 0)]) zeroValue81 rfl rfl<|fun i8 => zq sizeOf81 rfl rfl rfl rfl rfl rfl .head rfl<|z6<|zu (fun j => Nat.beq j 14) (by kernel_rfl) rfl (zm (.r (.r (.rest _))))<|zTk 0 rfl (ze underlying58 rfl sizeOf51 (by decide) rfl rfl)<|zTk 1 rfl (zl (c := .own _ _) isAgg51 rfl ⟨_, .t1⟩ rfl)<|zTk 2 rfl (ze underlying81 rfl sizeOf3 (by decide) rfl rfl)<|zTk 3 rfl (zl (c := .int _ _) isAgg3 rfl ⟨_, .head⟩ rfl)<|zTk 4 rfl (ze underlying81 rfl sizeOf23 (by decide) rfl rfl)<|zTk 5 rfl (zl (c := .fro _ _) isAgg23 rfl ⟨_, .head⟩ rfl)<|zTk 7 rfl (ze underlying81 rfl sizeOf23 (by decide) rfl rfl)<|zTk 8 rfl (zl (c := .fro _ _) isAgg23 rfl ⟨_, .head⟩ rfl)<|zOn 6 rfl<|zf (cloneI_spec _ (by omega)) rfl<|z6<|zOn 9 rfl<|zf (cloneI_spec _ (by omega)) rfl<|z6<|zTk 10 rfl (zx (cps := [(0, [_]), (1, [_]), (2, [_])]) (rs := [_, _, _]) pl81 rfl rfl rfl)<|zOn 11 rfl<|zw (rows := [[_, _, _]]) ps51_1 rfl rfl rfl rfl rfl<|z6<|zOn 12 rfl<|yg (k := 3) underlying51 type81 rfl rfl rfl rfl rfl (fun _ => .head) (by rw [grow_len (k := 3) (fun _ => rfl), qz, Nat.min_eq_left hm]) (by decide) rfl (by show (_ + _) * 56 ≤ _; simp <;> omega) (by simp <;> omega)<|fun i49 => z6<|zTk 13 rfl (ze underlying58 rfl sizeOf51 (by decide) rfl rfl)<|y8<|ya (i := 14) rfl (by kernel_rfl) (by kernel_rfl)<|yn (l := [_]) (new := [_, _, _, _, _, _, _]) sizeOf51 rfl rfl rfl rfl rfl rfl .t1 rfl rfl<|z6<|yd (by kernel_rfl)<|zRg<|z2 (zAd rfl rfl) ?_
    refine z2 (zMi rfl)<|z6 ?_
    exact ⟨(m + 1, i49), zR9, zR1, ⟨_, (.drop (.refl _)), by rw [← grow_push (qr hm2)]; rfl⟩, hm2, by dsimp only; omega⟩
   ·obtain rfl : m = f.blocks[k].phis.length := by omega
    refine y4<|zd<|zSr<|z2 (ze underlying58 rfl sizeOf52 (by decide) rfl rfl)<|z2 (zl (c := .fro _ _) isAgg52 rfl ⟨_, .t2⟩ rfl)<|z2 (y2 underlying52 rfl)<|z2 (zMi rfl)<|z6<|adoptC_wp (off := 2) (k := 4) (T := 61) (fun _ => .head) rfl<|fun ii => zi<|y5 (γ := Nat × Nat) [2, 3, 6, 19, 20, 21, 53, 54] (fun g => [(55, .int .i64 g.1)]) (fun g => [(g.2, .grow 4 61 ((f.blocks[k].insts.take g.1).map encInst).flatten), (i6, .cells 58 [.str f.blocks[k].name, .own ip f.blocks[k].phis.length, .own g.2 g.1, .int .i64 f.blocks[k].term.kind, .int .i64 f.blocks[k].term.var, .int .i64 f.blocks[k].term.to0, .int .i64 f.blocks[k].term.to1]), (ip, .grow 3 81 (f.blocks[k].phis.map encPhi).flatten), (i5, .cells 58 (encBlk f.blocks[k])), (ib, .grow 7 58 (blkIs ids (f.blocks.take k))), (0, bag (bagIs ids (f.blocks.take k))), (i3, .cells 26 [.fro 2 (f.vars.map encVar), .fro 1 (f.params.map encI), .own ib k]), (i2, .cells 26 [.raw (.slice none 0 0), .raw (.slice none 0 0), .raw (.slice none 0 0)])]) (fun g => g.1 ≤ f.blocks[k].insts.length) (fun g => f.blocks[k].insts.length - g.1) (0, ii) zR1 ⟨_, (.refl _), by rw [qv]; rfl⟩ (qt _) ?_
    rintro ⟨m, ii⟩ hm
    try dsimp only at *
    refine zSr<|z2 (yb rfl rfl)<|z6<|zd<|zr rfl (fun cm=>?_) (fun cm=>?_)
    ·have hm2 : m < f.blocks[k].insts.length := by omega
     have hp1 := hb4 _ (qu hm2)
     refine zh<|zd<|zi<|zSr<|z2 (q5 underlying52 sizeOf61 rfl rfl rfl (qq (by omega)))<|z2 (zp isAgg61 sizeOf61 rfl rfl)<|zy (cs := [.int .i64 0, .int .i64 0, .raw (.slice none 0 0), .int .i64 0]) zeroValue61 rfl rfl<|fun i10 => zq sizeOf61 rfl rfl rfl rfl rfl rfl .head rfl<|z6<|zSr<|z2 (ze underlying61 rfl sizeOf23 (by decide) rfl rfl)<|z2 (zl (c := .fro _ _) isAgg23 rfl ⟨_, .head⟩ rfl)<|zf (cloneI_spec _ (by omega)) rfl<|z2 (ze underlying61 rfl sizeOf23 (by decide) rfl rfl)<|yn (l := [_]) (new := [_, _, _, _]) sizeOf23 rfl rfl rfl rfl rfl rfl .head rfl rfl<|z6<|zRg<|z2 (ze underlying58 rfl sizeOf52 (by decide) rfl rfl)<|z2 (zl (c := .own _ _) isAgg52 rfl ⟨_, .t2⟩ rfl)<|z2 (q9 isAgg61 sizeOf61 rfl ⟨_, .head⟩ rfl)<|zw (rows := [[_, _, _, _]]) ps52_1 rfl rfl rfl rfl rfl<|yg (k := 4) underlying52 type61 rfl rfl rfl rfl rfl (fun _ => .t1) (by rw [grow_len (k := 4) (fun _ => rfl), qz, Nat.min_eq_left hm]) (by decide) rfl (by show (_ + _) * 48 ≤ _; simp <;> omega) (by simp <;> omega)<|fun i67 => z2 (ze underlying58 rfl sizeOf52 (by decide) rfl rfl)<|yn (l := [_]) (new := [_, _, _, _, _, _, _]) sizeOf52 rfl rfl rfl rfl rfl rfl .t2 rfl rfl<|z6<|zRg<|z2 (zAd rfl rfl)<|z2 (zMi rfl)<|z6 ?_
     exact ⟨(m + 1, i67), zR8, zR1, ⟨_, (.drop (.refl _)), by rw [← grow_push (qr hm2)]; rfl⟩, hm2, by dsimp only; omega⟩
    ·obtain rfl : m = f.blocks[k].insts.length := by omega
     rw [qv]
     refine y4<|yc (qf (off := 1) (rows := f.blocks[k].phis.map encPhi) .t2 .t1 rfl (by simp [encI, encVar, encPhi, encInst, encBlk]) (by decide) (by simp))<|zRg<|z2 (ze underlying26 rfl sizeOf24 (by decide) rfl rfl)<|z2 (zl (c := .own _ _) isAgg24 rfl ⟨_, .t5⟩ rfl)<|z2 (q9 isAgg58 sizeOf58 rfl ⟨_, .t1⟩ rfl)<|zw (rows := [[_, _, _, _, _, _, _]]) ps24_1 rfl rfl rfl rfl rfl<|yg (k := 7) underlying24 type58 rfl rfl rfl rfl rfl (fun _ => .t3) (by rw [blkIs_len (by rw [qz]; omega), qz, Nat.min_eq_left hk]) (by decide) rfl (by show (_ + _) * 96 ≤ _; simp <;> omega) (by simp <;> omega)<|fun i74 => z2 (ze underlying26 rfl sizeOf24 (by decide) rfl rfl)<|yn (l := [_]) (new := [_, _, _]) sizeOf24 rfl rfl rfl rfl rfl rfl .t5 rfl rfl<|z6<|yc (GStep.bagIn (X' := bagIs (ids ++ [ii]) (f.blocks.take (k + 1))) .head (bagIs_push ii hids hk2) .t3)<|zRg<|z2 (zAd rfl rfl)<|z2 (zMi rfl)<|z6 ?_
     exact ⟨(k + 1, i74, ids ++ [ii]), zR4, zR1, ⟨_, (.drop (.drop (.refl _))), by rw [← blkIs_push ii hids hk2]; rfl⟩, ⟨hk2, by simp [hids]⟩, by dsimp only; omega⟩
  ·obtain rfl : k = f.blocks.length := by omega
   rw [qv]
   refine y4<|zSr<|z2 (q9 isAgg26 sizeOf26 rfl ⟨_, .t2⟩ rfl)<|zq sizeOf26 rfl rfl rfl rfl rfl rfl .t3 rfl<|z6<|zg<|afin.c1 rfl ⟨_, .t3⟩ isAgg26 sizeOf26 rfl ?_
   exact ⟨(ib, ids), rfl, ⟨_, .keep (.keep (.drop (.drop (.refl _)))), rfl⟩, hids⟩
end Go.Proofs.YtiojekbkamegdaaGreatDoor
namespace Go.Proofs.YtiojekbkamegdaaGreatDoor
open Go.Proofs.Tryz
def cutO (b c k : Nat) (T : TypeId) (cs : List AV) : AObj := .heapG (fun I L => ∃ vs js : List Value, RepL I cs vs ∧ (∀ u ∈ vs, u.oneCell' = true) ∧ (vs ++ js).length = c * k ∧ L = [(b, .cells (vs ++ js).toArray T (0, 0))]) fun I J L h hp => by
 obtain ⟨vs, js, h1, h2⟩ := hp; exact ⟨vs, js, qd h _ _ h1, h2⟩
section
variable {E : World} {P : Program} {ops : Array Oper} {K : AEnv → OL → Prop} {env : AEnv} {O O' O1 : OL} {rest : List Oper} {n : Nat}
variable {d ty : Nat} {pos : String} {af : Array Edge} {x y z q : Operand} {t u e T : TypeId}
theorem AWP.ownCut {s i m k : Nat} {cs : List AV} {c0 : Code} {Q : Exit → AEnv → OL → Prop} (hv : env s = .own i m) (hO : Pick O i (.grow k T cs) O1) (hk : 0 < k) (hm : cs.length = m * k) (hm0 : 0 < m)
  (h : ∀ b c, m ≤ c → AWP P E n c0 Q (aupd env s (rsl b 0 m c)) ((0, cutO b c k T cs) :: O1)) : AWP P E n c0 Q env O := fun I F ρ w h1 h2 => by
 obtain ⟨htop, L, hL, hS⟩ := h2
 obtain ⟨A, B, hp, ⟨b, c, n', vs, e1, hvs, hvc, h5, h6, h7⟩, hB⟩ := hO.rep hL
 have h3 := h1 s
 rw [hv] at h3
 obtain ⟨b2, c2, e2, e3⟩ := h3
 simp only at e1
 rw [e1] at e2
 simp only [Option.some.injEq, Prod.mk.injEq] at e2
 obtain ⟨rfl, rfl⟩ := e2
 have hl := hvs.length
 have hnm : n' = m := Nat.eq_of_mul_eq_mul_right hk (by omega)
 subst hnm
 rcases h7 with ⟨ea, rfl, rfl⟩ | ⟨b', junk, ea, rfl, hj⟩
 ·omega
 ·rw [ea] at e3
  refine h b' c h6 I F ρ w (fun r=>?_) ⟨htop, _, ⟨[(b', .cells (vs ++ junk).toArray T (0, 0))], B, rfl, ⟨vs, junk, hvs, hvc, hj, rfl⟩, hB⟩, hS.perm (hp.symm.append_right F)⟩
  unfold aupd
  cases hb : Nat.beq r s with
  | false => exact h1 r
  | true =>
   have : r = s := Nat.eq_of_beq_eq_true hb
   subst this
   exact e3
theorem AWP.cutOwn {s b c m k : Nat} {cs : List AV} {c0 : Code} {Q : Exit → AEnv → OL → Prop} (hv : env s = rsl b 0 m c) (hO : Pick O 0 (cutO b c k T cs) O1) (hm : cs.length = m * k) (hmc : m ≤ c)
  (h : ∀ i, AWP P E n c0 Q (aupd env s (.own i m)) ((i, .grow k T cs) :: O1)) : AWP P E n c0 Q env O := fun I F ρ w h1 h2 => by
 obtain ⟨i, hi⟩ := h2.name
 obtain ⟨J, e1, hle, e2, htop⟩ := hi (some b, c)
 obtain ⟨_, L, hL, hS⟩ := h2
 obtain ⟨A, B, hp, ⟨vs, js, hvs, hvc, hlen, rfl⟩, hB⟩ := hO.rep hL
 have hl := hvs.length
 refine (h i J F ρ w (fun r=>?_) ⟨htop, _, ⟨_, B, rfl, ⟨some b, c, m, vs, e2, qd hle _ _ hvs, hvc, by omega, hmc, .inr ⟨b, js, rfl, rfl, hlen⟩⟩, hB.mono hle⟩, by rw [e1]; exact hS.perm (hp.symm.append_right F)⟩).mono fun _ _ _ => postE.up hle
 unfold aupd
 cases hb : Nat.beq r s with
 | false => exact qg hle _ _ (h1 r)
 | true =>
  have : r = s := Nat.eq_of_beq_eq_true hb
  subst this
  have h4 := h1 r
  rw [hv] at h4
  exact ⟨some b, c, e2, h4⟩
theorem Gv.rowHiK {b m c j k : Nat} {a : Int} (ht : P.underlying t = some (.slice e)) (hs : ∀ w, (sizeOf e).run P w = .ok k w) (hx : aev env x = rsl b 0 m c) (hy : aev env y = .int .i64 a) (hi : a = (j : Int)) (hc : j ≤ c) :
  Gv P env O (Oper.mk (some d) (.slice t x none (some y) none) ty pos af none) (rsl b 0 j c) := qn fun I ρ h => by
 have h1 := evRaw h hx
 have h2 := evI h hy
 subst hi
 refine ⟨_, rfl, fun w=>?_⟩
 simp [execOp, Instr.sliceAt, Instr.slice, Instr.sliceBounds, Instr.sliceBound, asIntOf, Sem.run_bind, run_underlying ht, hs, h1, h2, hc, addr_add]
theorem Gv.cutNil {b m c j k : Nat} {a : Int} (ht : P.underlying t = some (.slice e)) (hs : ∀ w, (sizeOf e).run P w = .ok k w) (hx : aev env x = rsl b 0 m c) (hy : aev env y = .int .i64 a) (hi : a = (m : Int)) (hc : m ≤ c) :
  Gv P env O (Oper.mk (some d) (.slice t x (some y) none none) ty pos af none) (.fro j []) := qn fun I ρ h => by
 have h1 := evRaw h hx
 have h2 := evI h hy
 subst hi
 refine ⟨.slice (some (if c - m = 0 then ⟨b, 0, none⟩ else ⟨b, m * k, none⟩)) 0 (c - m), ⟨_, _, _, rfl, rfl, qt _, (fun h => by cases h), trivial⟩, fun w=>?_⟩
 by_cases hcm : c = m
 ·subst hcm
  simp [execOp, Instr.sliceAt, Instr.slice, Instr.sliceBounds, Instr.sliceBound, asIntOf, Sem.run_bind, run_underlying ht, hs, h1, h2, addr_add]
 ·have : ¬ c - m = 0 := by omega
  simp [execOp, Instr.sliceAt, Instr.slice, Instr.sliceBounds, Instr.sliceBound, asIntOf, Sem.run_bind, run_underlying ht, hs, h1, h2, addr_add, hcm, this]
theorem Gv.cutTail {b m c j k : Nat} {a a2 : Int} (ht : P.underlying t = some (.slice e)) (hs : ∀ w, (sizeOf e).run P w = .ok k w) (hx : aev env x = rsl b 0 j c) (hy : aev env y = .int .i64 a) (hz : aev env z = .int .i64 a2) (hi : a = (j : Int)) (hi2 : a2 = (m : Int)) (hj : j < m) (hc : m ≤ c) :
  Gv P env O (Oper.mk (some d) (.slice t x (some y) (some z) none) ty pos af none) (rsl b (j * k) (m - j) (c - j)) := qn fun I ρ h => by
 have h1 := evRaw h hx
 have h2 := evI h hy
 have h3 := evI h hz
 subst hi hi2
 refine ⟨_, rfl, fun w=>?_⟩
 have hcj : ¬ c = j := by omega
 have hcj2 : ¬ c - j = 0 := by omega
 have h4 : j ≤ m := by omega
 simp [execOp, Instr.sliceAt, Instr.slice, Instr.sliceBounds, Instr.sliceBound, asIntOf, Sem.run_bind, run_underlying ht, hs, h1, h2, h3, hc, hcj, hcj2, h4, addr_add]
theorem Gv.cut3 {b m c j l k : Nat} {a a2 a3 : Int} (ht : P.underlying t = some (.slice e)) (hs : ∀ w, (sizeOf e).run P w = .ok k w) (hx : aev env x = rsl b 0 m c) (hy : aev env y = .int .i64 a) (hz : aev env z = .int .i64 a2) (hq : aev env q = .int .i64 a3) (hi : a = (j : Int)) (hi2 : a2 = (l : Int)) (hi3 : a3 = (m : Int)) (hj : j < m) (hl : j ≤ l) (hl2 : l ≤ m) (hc : m ≤ c) :
  Gv P env O (Oper.mk (some d) (.slice t x (some y) (some z) (some q)) ty pos af none) (rsl b (j * k) (l - j) (m - j)) := qn fun I ρ h => by
 have h1 := evRaw h hx
 have h2 := evI h hy
 have h3 := evI h hz
 have h4 := evI h hq
 subst hi hi2 hi3
 refine ⟨_, rfl, fun w=>?_⟩
 have hcj : ¬ m = j := by omega
 have hcj2 : ¬ m - j = 0 := by omega
 simp [execOp, Instr.sliceAt, Instr.slice, Instr.sliceBounds, Instr.sliceBound, asIntOf, Sem.run_bind, run_underlying ht, hs, h1, h2, h3, h4, hc, hcj, hcj2, hl, hl2, addr_add]
theorem Gv.appendNil {ti : TypeInfo} {b m c k : Nat} (ht : P.underlying t = some (.slice e)) (hi : P.info? e = some ti) (hx : aev env x = rsl b 0 m c) (hy : aev env y = .fro k []) (hc : m ≤ c) :
  Gv P env O (Oper.mk (some d) (.call { callee := .builtin .append, args := #[x, y], argTypes := #[t, t] }) ty pos af none) (rsl b 0 m c) := qn fun I ρ h => by
 have h1 := evRaw h hx
 have h2 := h.ev y
 rw [hy] at h2
 obtain ⟨a, n0, c0, e2, h3, _⟩ := h2
 have h3 : n0 = 0 := h3
 subst h3
 refine ⟨_, rfl, fun w=>?_⟩
 cases a <;> simp [execOp, resolve, invoke, builtin, h1, e2, Builtin.append_, run_underlying ht, sizeOf, typeInfo, hi, Builtin.lenOf, Builtin.firstCells, hc, storeCells, loadCells, loadCellsFrom]
theorem AOps.clearCut {b c k n' c' off : Nat} {A row : List AV} {zv : Value} {dd : Option Nat} (ht : P.underlying t = some (.slice e)) (hv : ∀ w, (zeroValue e).run P w = .ok zv w) (hzk : zv.cells.size = k) (hz1 : zv.cells.all (fun v => v.oneCell') = true) (hk : 0 < k)
  (hx : aev env x = rsl b off (n' + 1) c') (hoff : A.length = off) (hrow : row.length = (n' + 1) * k) (hO : Put O 0 (cutO b c k T (A ++ row)) (cutO b c k T A) O')
  (kk : ∀ r, r = .tup [] → AOps P E ops K rest (aupdO env dd r) O') :
  AOps P E ops K (Oper.mk dd (.call { callee := .builtin .clear, args := #[x], argTypes := #[t] }) ty pos af none :: rest) env O := fun I F ρ w h1 h2 => by
 obtain ⟨htop, L, hL, hS⟩ := h2
 have ex := evRaw h1 hx
 obtain ⟨A2, B, hp, ⟨vs, js, hvs, hvc, hlen, rfl⟩, hback⟩ := hO.rep hL
 have hS2 : SL I.k ((b, .cells (vs ++ js).toArray T (0, 0)) :: (B ++ F)) E w := hS.perm ((hp.append_right F).symm)
 have hl := hvs.length
 rw [qw] at hl
 let zs := (Builtin.zeroCells zv.cells (n' + 1)).toList
 have hzl : zs.length = (n' + 1) * k := by simp [zs, size_zeroCells, hzk]
 have hzo : ∀ v ∈ zs, v.oneCell' = true := fun v hv => by
  simp only [zs, Builtin.zeroCells, Array.toList_map, Array.toList_range, List.mem_map, List.mem_range] at hv
  obtain ⟨i, _, rfl⟩ := hv
  have hlt : i % zv.cells.size < zv.cells.size := Nat.mod_lt _ (by omega)
  rw [getElem!_pos zv.cells _ hlt]
  exact (Array.all_eq_true.1 hz1) _ hlt
 have hfit : off + 0 + zs.length ≤ (vs ++ js).toArray.size := by
  rw [hzl]; simp; omega
 have hst := run_storeCells_at (P := P) b off T zs 0 (vs ++ js).toArray w (hS2.own _ (.head _)) hfit hzo
 have hexec : (execOp (Go.Proofs.YtiojekbkamegdaaGreatDoor.ev ρ) (Oper.mk dd (.call { callee := .builtin .clear, args := #[x], argTypes := #[t] }) ty pos af none)).run P w = .ok (.value (.tuple #[])) (w.setRow b ((vs ++ js).toArray.toList.take (off + 0) ++ zs ++ (vs ++ js).toArray.toList.drop (off + 0 + zs.length)).toArray) := by
  have hst' : (storeCells ⟨b, off, none⟩ zs 0).run P w = _ := hst
  simp [execOp, resolve, invoke, builtin, ex, Builtin.clear_, run_underlying ht, hv, zs] at hst' ⊢
  simp [hst']
 have hshape : (vs ++ js).toArray.toList.take (off + 0) ++ zs ++ (vs ++ js).toArray.toList.drop (off + 0 + zs.length) = vs.take off ++ (zs ++ (vs ++ js).drop (off + zs.length)) := by
  rw [Nat.add_zero, List.toList_toArray, List.take_append_of_le_length (by omega), qs]
 rw [hshape] at hexec
 have hA : RepL I A (vs.take off) := by have := hvs.take off; rwa [← hoff, List.take_left, hoff] at this
 obtain ⟨L', h5, h6⟩ := hback (qe I) (A' := [(b, .cells (vs.take off ++ (zs ++ (vs ++ js).drop (off + zs.length))).toArray T (0, 0))]) ⟨vs.take off, _, hA, fun u hu => hvc u (List.mem_of_mem_take hu), (by
  rw [← hlen]
  simp only [qw, qz, List.length_drop]; omega), rfl⟩
 refine Ops.step rfl ?_
 unfold OpW
 rw [hexec]
 refine kk _ rfl I F _ _ ?_ ⟨htop, L', h5, (hS2.turn1).perm (h6.append_right F)⟩
 exact h1.updO dd ⟨[], rfl, rfl⟩
end
end Go.Proofs.YtiojekbkamegdaaGreatDoor
namespace Go.Proofs.YtiojekbkamegdaaGreatDoor
open Go.Proofs.Tryz
open Go.Proofs Go.Lib Go.Shelf Go.RowKit
set_option maxRecDepth 20000
variable {E : World}
theorem insts_len (l : List PInst) : ((l.map encInst).flatten).length = l.length * 4 := grow_len (k := 4) (fun _ => rfl) l
set_option maxHeartbeats 4000000 in
theorem delLast_own (l : List PInst) (x : PInst) (i : Nat) (a a2 : Int) (ha : a = l.length) (ha2 : a2 = (l.length + 1 : Nat)) (hl : l.length ≤ 100000) : ACall prog E 115 [.own i (l.length + 1), .int .i64 a, .int .i64 a2] [(i, .grow 4 61 ((l ++ [x]).map encInst).flatten)]
  (fun r O => ∃ j : Nat, r = .own j l.length ∧ O = [(j, .grow 4 61 (l.map encInst).flatten)]) := by
 have hlen : ((l ++ [x]).map encInst).flatten.length = (l.length + 1) * 4 := by rw [insts_len]; simp
 have hl4 := insts_len l
 have happ : ((l ++ [x]).map encInst).flatten = (l.map encInst).flatten ++ encInst x := by simp
 refine zo func115 rfl (by decide) rfl<|zSr<|z2 (zAr rfl)<|z6<|AWP.ownCut (s := 0) rfl .head (by decide) hlen (by omega) ?_
 intro bb cc hcc
 rw [happ]
 refine zSr<|z2 (yq (v := .raw _) rfl)<|z2 (zMi rfl)<|z2 (zMi rfl)<|z2 (yq (v := .raw _) rfl)<|z2 (Gv.lenRow underlying52 rfl)<|z2 (Gv.cut3 (j := l.length) (l := l.length + 1) (m := l.length + 1) underlying52 sizeOf61 rfl rfl rfl rfl ha ha2 rfl (by omega) (by omega) (by omega) hcc)<|z6<|zd<|zSr<|z2 (zMi rfl)<|z2 (zMi rfl)<|z2 (y7 rfl rfl)<|z6<|ym rfl (w4 (by omega))<|zh<|zSr<|z2 (yq (v := .raw _) rfl)<|z2 (Gv.lenRow underlying52 rfl)<|z2 (zAi rfl)<|z6<|zd<|zu (fun j => false) (by kernel_rfl) rfl (zm (.rest _))<|zTk 0 rfl (yq (v := .raw _) rfl)<|zTk 1 rfl (zMi rfl)<|zTk 2 rfl (Gv.rowHiK (j := l.length) underlying52 sizeOf61 rfl rfl ha (by omega))<|zTk 3 rfl (yq (v := .raw _) rfl)<|zTk 4 rfl (zMi rfl)<|zTk 5 rfl (Gv.cutNil (m := l.length + 1) (j := 4) underlying52 sizeOf61 rfl rfl ha2 hcc)<|zTk 6 rfl (Gv.appendNil underlying52 type61 rfl rfl (by omega))<|zTk 7 rfl (zAr rfl)<|zDn<|zSr<|z2 (yq (v := .raw _) rfl)<|z2 (yq (v := .raw _) rfl)<|z2 (Gv.lenRow underlying52 rfl)<|z2 (zMi rfl)<|z2 (Gv.cutTail (j := l.length) (m := l.length + 1) underlying52 sizeOf61 rfl rfl rfl rfl rfl (by omega) hcc)<|AOps.clearCut (k := 4) (n' := 0) (off := l.length * 4) (A := (l.map encInst).flatten) (row := encInst x) underlying52 zeroValue61 (by kernel_rfl) (by kernel_rfl) (by decide) (by show rsl _ _ _ _ = rsl _ _ _ _; congr 1; congr 1; omega) hl4 rfl .head ?_
 intro r_ hr_
 refine z6<|AWP.cutOwn (s := 0) rfl .head hl4 (by omega)<|fun jj => zSr<|z2 (zMo rfl)<|z2 (zAo rfl)<|z6<|zg<|zk (x := .own _ _) rfl ?_
 exact ⟨jj, rfl, rfl⟩
theorem fold_take {f : PFunc} {b a : Int} {l : List Int} {k : Nat} (st : List PBlock × Bool) (h : k < l.length) : (l.take (k + 1)).foldl (addX f b a) st = addX f b a ((l.take k).foldl (addX f b a) st) l[k] := by
 rw [qr h, List.foldl_append]; rfl
theorem setI_mem {bs : List PBlock} {p : Nat} {g : List PInst → List PInst} {c : PBlock} (h : c ∈ setI bs p g) : c ∈ bs ∨ ∃ d ∈ bs, c = { d with insts := g d.insts } := by
 unfold setI at h
 cases hb : bs[p]? with
 | none => rw [hb] at h; exact .inl h
 | some d =>
  rw [hb] at h
  rcases List.mem_or_eq_of_mem_set h with h | h
  ·exact .inl h
  ·exact .inr ⟨d, qy hb, h⟩
theorem fold_bd {f : PFunc} {b a : Int} : ∀ (l : List Int) (st : List PBlock × Bool) (M : Nat), (∀ c ∈ st.1, c.insts.length ≤ M ∧ c.phis.length ≤ 1000) → ∀ c ∈ (l.foldl (addX f b a) st).1, c.insts.length ≤ M + l.length ∧ c.phis.length ≤ 1000
 | [], _, _, h => h
 | p :: l, st, M, h => fun c hc => by
  have := fold_bd l (addX f b a st p) (M + 1) (fun c hc => by
   unfold addX at hc
   split at hc
   ·have := h c hc; omega
   ·rcases setI_mem (bs := st.1) (p := p.toNat) (g := fun x => x ++ [fromF f b a p]) hc with h1 | ⟨d, h1, rfl⟩
    ·have := h c h1; omega
    ·have := h d h1; simp; omega) c hc
  rw [List.length_cons]; omega
theorem fold_keep {f : PFunc} {b a : Int} {q : Nat} : ∀ (l : List Int) (st : List PBlock × Bool), (∀ p ∈ l, p.toNat ≠ q) → (l.foldl (addX f b a) st).1[q]? = st.1[q]?
 | [], _, _ => rfl
 | p :: l, st, h => by
  rw [List.foldl_cons, fold_keep l _ (fun p hp => h p (List.mem_cons_of_mem _ hp))]
  unfold addX
  split
  ·rfl
  ·have hp := h p (.head _)
   unfold setI
   cases st.1[p.toNat]? with
   | none => rfl
   | some d => exact List.getElem?_set_ne hp
theorem first_ge {f : PFunc} {b : Int} (h : 0 ≤ firstF f b) : ∃ (k : Nat) (B : PBlock), b = (k : Int) ∧ f.blocks[k]? = some B ∧ mayB f b = true ∧ firstF f b < B.insts.length ∧ instsAt f b = B.insts := by
 unfold firstF at h ⊢
 split at h
 ·rename_i hc
  rw [if_pos hc]
  obtain ⟨⟨h0, h1⟩, hm⟩ := hc
  obtain ⟨k, rfl⟩ : ∃ k : Nat, b = (k : Int) := ⟨b.toNat, by omega⟩
  have hk : k < f.blocks.length := by omega
  have hI : instsAt f (k : Int) = f.blocks[k].insts := by unfold instsAt; rw [show ((k : Int)).toNat = k from rfl, qq hk]; rfl
  refine ⟨k, f.blocks[k], rfl, qq hk, hm, ?_, hI⟩
  have hr := firstI_rng (fun x : PInst => stopB x.op) (instsAt f (k : Int)) 0
  rw [hI] at hr h ⊢
  unfold firstJ at h ⊢
  split
  ·omega
  ·split <;> omega
 ·omega
theorem inTo_rng {f : PFunc} (hE : EndsOk f) {b p : Int} (h : p ∈ inTo f b) : 0 ≤ p ∧ p < f.blocks.length := by
 unfold inTo predsT at h
 obtain ⟨i, hi, h2⟩ := List.mem_flatMap.1 h
 obtain ⟨_, _, rfl⟩ := List.mem_map.1 h2
 unfold intsTo at hi
 obtain ⟨n, hn, rfl⟩ := List.mem_map.1 hi
 have := List.mem_range.1 hn
 exact ⟨Int.natCast_nonneg n, by show (n : Int) < _; omega⟩
theorem sumI_succ {bs : List PBlock} {i : Nat} (h : i < bs.length) : sumI (bs.take (i + 1)) = sumI (bs.take i) + (bs[i].phis.length + bs[i].insts.length) := by
 unfold sumI; rw [qr h, List.map_append, List.sum_append]; simp
theorem sumI_bd {M : Nat} : ∀ (bs : List PBlock), (∀ c ∈ bs, c.phis.length + c.insts.length ≤ M) → sumI bs ≤ bs.length * M
 | [], _ => by simp [sumI]
 | c :: bs, h => by
  have h1 := sumI_bd bs (fun c hc => h c (List.mem_cons_of_mem _ hc))
  have h2 := h c (.head _)
  unfold sumI at h1 ⊢
  rw [List.map_cons, List.sum_cons, List.length_cons, Nat.add_mul]; omega
theorem mayB_not {f : PFunc} {b p : Int} (h : mayB f b = true) (hp : p ∈ inTo f b) : p ≠ b := by
 unfold mayB at h
 simp only [Bool.and_eq_true, Bool.not_eq_true'] at h
 rintro rfl
 have h2 := h.2
 rw [List.contains_eq_mem] at h2
 simp at h2
 exact h2 hp
def lastP (f : PFunc) : Prop := ∀ b, 0 ≤ firstF f b → (instsAt f b).length = (firstF f b).toNat + 1
set_option maxHeartbeats 16000000 in
theorem step_ok (f : PFunc) (hf : small f) (hL : Letters E) (hp : plB f = true) (hl : lastP f) (b : Int) : AFun prog E 61 [.agg (encF f), .int .i64 b] (.tup [.agg (encF (stepF f true b).1), .bool (stepF f true b).2]) := by
 have ht : typedB f = true := (and3 hp).1
 have hS := typedB_shaped ht
 have hE := typedB_ends ht
 have hn := hf.2.2.1
 refine zo func61 rfl (by decide) rfl<|zSr<|y9 (cs := _) rfl rfl rfl<|zy (cs := [.raw (.slice none 0 0), .raw (.slice none 0 0), .raw (.slice none 0 0)]) zeroValue26 rfl rfl<|fun i4 => z2 (zAb rfl)<|z6<|zSr<|z2 (zp isAgg26 sizeOf26 rfl rfl)<|zf (plook_ok f hf hL hp) rfl<|z2 (zMu rfl)<|z2 (Gv.extract (v := .pf _) rfl rfl)<|z2 (zXi rfl rfl)<|z2 (q7 (v := .pf _) rfl)<|z2 (zAi rfl)<|z6<|zd<|zSr<|z2 (zMi rfl)<|z2 (yj rfl rfl)<|z6<|ym rfl rfl<|zh<|zSr<|z2 (zMg rfl)<|z2 (zMi rfl)<|zf (pfirst_spec f hf hS b) rfl<|z2 (zMu rfl)<|z2 (zXi rfl rfl)<|z2 (zXb rfl rfl)<|z2 (zAi rfl)<|z2 (zAb rfl)<|z6<|zd<|zSr<|z2 (zMb rfl)<|z2 (yl rfl)<|z6<|zz rfl (fun c1=>?_) (fun c1=>?_)
 ·have h1 : ¬ 0 ≤ firstF f b := by simpa using c1
  refine zSr<|z2 (zp isAgg26 sizeOf26 rfl rfl)<|zq sizeOf26 rfl rfl rfl rfl rfl rfl .head rfl<|z2 (zAb rfl)<|z6<|zg<|afin.c1t (y := .bool _) rfl rfl ⟨_, .head⟩ isAgg26 sizeOf26 rfl ?_
  unfold stepF; rw [if_neg (fun h => h1 h.2.1)]; rfl
 ·have h1 : 0 ≤ firstF f b := by simpa using c1
  obtain ⟨k, B, rfl, hget, hm, hlt, hIB⟩ := first_ge h1
  obtain ⟨a, ha⟩ : ∃ a, firstF f (k : Int) = a := ⟨_, rfl⟩
  rw [ha] at h1 hlt
  rw [ha, Int.max_eq_left h1]
  have hk : k < f.blocks.length := (List.getElem?_eq_some_iff.1 hget).1
  obtain ⟨hb0, hb1, hb2, hb3, hb4⟩ := hf.2.2.2.2 B (qy hget)
  have hBl := hl (k : Int) (by rw [ha]; exact h1)
  rw [ha, hIB] at hBl
  have hpl := inTo_len hf (k : Int)
  obtain ⟨P, hP⟩ : ∃ P, inTo f (k : Int) = P := ⟨_, rfl⟩
  have hrow : (predsR f f.blocks.length)[k]? = some P := by rw [← hP]; exact predsR_row f hk
  have hrng : ∀ p ∈ P, 0 ≤ p ∧ p < f.blocks.length := fun p hp => inTo_rng hE (hP ▸ hp)
  rw [hP] at hpl
  have hbig : ∀ c ∈ (f.blocks, false).1, c.insts.length ≤ 1000 ∧ c.phis.length ≤ 1000 := fun c hc => ⟨(hf.2.2.2.2 c hc).2.2.1, (hf.2.2.2.2 c hc).2.1⟩
  refine zh<|zSr<|z2 (zp isAgg26 sizeOf26 rfl rfl)<|y1 rfl (zm (.r (.rest _))) (copyI_own f hf) ?_
  rintro r36 O36 ⟨⟨ib, ids⟩, rfl, rfl, hids⟩
  refine zy (cs := [.raw (.slice none 0 0), .raw (.slice none 0 0), .raw (.slice none 0 0)]) zeroValue26 rfl rfl<|fun i10 => zq sizeOf26 rfl rfl rfl rfl rfl rfl .head rfl<|z2 (zAb rfl)<|z6<|zd<|zSr<|z2 (zMg rfl)<|z2 (yx rfl)<|z2 (zFF underlying184 rfl sizeOf118 rfl rfl)<|z2 (zLf isAgg118 rfl)<|z2 (zMi rfl)<|z2 (zIM k underlying118 sizeOf23 rfl rfl rfl hrow)<|z2 (zLf isAgg23 rfl)<|z2 (y2 underlying23 rfl)<|z2 (zMi rfl)<|z6<|zi<|y5 (γ := Nat × List Nat) [1, 2, 4, 6, 8, 10, 43, 44] (fun g => [(45, .int .i64 g.1), (11, .bool ((P.take g.1).foldl (addX f k a) (f.blocks, false)).2)]) (fun g => [(i10, .cells 26 [.fro 2 (f.vars.map encVar), .fro 1 (f.params.map encI), .own ib f.blocks.length]), (ib, .grow 7 58 (blkIs g.2 ((P.take g.1).foldl (addX f k a) (f.blocks, false)).1)), (0, bag (bagIs g.2 ((P.take g.1).foldl (addX f k a) (f.blocks, false)).1)), (i4, .cells 26 [.raw (.slice none 0 0), .raw (.slice none 0 0), .raw (.slice none 0 0)])]) (fun g => g.1 ≤ P.length ∧ g.2.length = f.blocks.length ∧ (P.take g.1).any (shutB f k a) = false) (fun g => P.length - g.1) (0, ids) zR2 zLe (⟨qt _, hids, rfl⟩) ?_
  rintro ⟨q, ids⟩ ⟨hq, hids, hsh⟩
  try dsimp only at *
  refine zSr<|z2 (yb rfl rfl)<|z6<|zd<|zr rfl (fun cq=>?_) (fun cq=>?_)
  ·have hq2 : q < P.length := by simp at cq; omega
   obtain ⟨p, hpq⟩ : ∃ p, P[q] = p := ⟨_, rfl⟩
   obtain ⟨hp0, hpn⟩ := hrng p (hpq ▸ qu hq2)
   obtain ⟨st, hst⟩ : ∃ st, (P.take q).foldl (addX f k a) (f.blocks, false) = st := ⟨_, rfl⟩
   have hsucc : (P.take (q + 1)).foldl (addX f k a) (f.blocks, false) = addX f k a st p := by rw [fold_take _ hq2, hst, hpq]
   have hstl : st.1.length = f.blocks.length := by rw [← hst, addX_fold_len]
   have hbd : ∀ c ∈ st.1, c.insts.length ≤ 1000 + q ∧ c.phis.length ≤ 1000 := fun c hc => by
    have := fold_bd (f := f) (b := k) (a := a) (P.take q) (f.blocks, false) 1000 hbig c (by rw [hst]; exact hc)
    rw [qz] at this; omega
   obtain ⟨C, hC⟩ : ∃ C, f.blocks[p.toNat]? = some C := ⟨_, qq (by omega)⟩
   have hEn : EndsOf f p = endsL C.term := by rw [EndsOf_get hp0 (by omega)]; rw [qq (by omega)] at hC; rw [Option.some.inj hC]
   obtain ⟨x, hx⟩ : ∃ x, fromF f k a p = x := ⟨_, rfl⟩
   have hfr := pfrom_spec (E := E) f hf hS k a p B hget h1 hlt
   rw [hx] at hfr
   have hxl : x.args.length ≤ 1000 := by
    rw [← hx]; unfold fromF instOf; rw [hIB, qq (by omega)]; simp; exact hb4 _ (qu _)
   have hen := endsL_len C.term
   rw [hst]
   refine zh<|zd<|zi<|zSr<|z2 (zIM q underlying23 sizeOf3 rfl rfl rfl (by rw [qq hq2, hpq])) ?_
   refine z2 (zLi isAgg3 rfl)<|z2 (zAi rfl)<|z6<|zSr<|z2 (zMg rfl)<|z2 (zMi rfl)<|z2 (zMi rfl)<|z2 (zMi rfl)<|zf (hfr) rfl<|zy (cs := [.int .i64 0, .int .i64 0, .raw (.slice none 0 0), .int .i64 0]) zeroValue61 rfl rfl<|fun i14 => zq sizeOf61 rfl rfl rfl rfl rfl rfl .head rfl<|zc (yk (t := 14) rfl .head)<|z6<|zi<|zSr<|z2 (zMg rfl)<|z2 (zp isAgg61 sizeOf61 rfl rfl)<|z2 (zMi rfl)<|z2 (zMi rfl)<|z2 (zMi rfl)<|z2 (zx (cps := [(0, [_]), (1, [_])]) (rs := [_, _]) pl144 rfl rfl rfl)<|zf (ppassed_spec f hf hE x hxl p ((k : Int), a) C hp0 hC) rfl<|z2 (zAb rfl)<|z6<|zz rfl (fun cp=>?_) (fun cp=>?_)
   ·have hps : passF f x p ((k : Int), a) = true := cp
    have hadd : addX f k a st p = (st.1, true) := by unfold addX; rw [hx, if_pos hps]
    refine zRg<|z2 (zAb rfl)<|z6<|zRg<|z2 (zAd rfl rfl)<|z2 (zMi rfl)<|z6 ?_
    exact ⟨(q + 1, ids), zR8, ⟨rfl, (by rw [hsucc, hadd]; rfl), trivial⟩, ⟨_, (.refl _), by rw [hsucc, hadd]⟩, ⟨hq2, hids, any_take hq2 hsh (by rw [hpq]; unfold shutB; rw [hx, hps]; rfl)⟩, by dsimp only; omega⟩
   ·have hps : passF f x p ((k : Int), a) = false := cp
    refine zSr<|z2 (zFF underlying26 rfl sizeOf24 rfl rfl)<|z2 (zLf isAgg24 rfl)<|z2 (zMi rfl)<|z2 (zIM p.toNat underlying24 sizeOf58 rfl rfl (by omega) hC)<|z2 (zFF underlying58 rfl sizeOf56 rfl rfl)<|z2 (zp isAgg56 sizeOf56 rfl rfl)<|zf (ends_spec C.term) rfl<|z2 (y2 underlying23 rfl)<|z2 (q4 rfl rfl)<|z2 (zAb rfl)<|z6<|zz rfl (fun ce=>?_) (fun ce=>?_)
    ·have hsb : shutB f k a p = true := by unfold shutB; rw [hx, hps, hEn, w3 (by have h0 : (1 : Int) < ((endsL C.term).length : Int) := (by simpa using ce); omega)]; rfl
     refine zSr<|z2 (zp isAgg26 sizeOf26 rfl rfl)<|zq sizeOf26 rfl rfl rfl rfl rfl rfl .t3 rfl<|z2 (zAb rfl)<|z6<|zg<|afin.c1t (y := .bool _) rfl rfl ⟨_, .t3⟩ isAgg26 sizeOf26 rfl ?_
     unfold stepF; rw [if_neg (fun h => by have h3 := h.2.2.1; rw [ha, hP, List.any_eq_false] at h3; exact h3 p (hpq ▸ qu hq2) hsb)]; rfl
    ·have hsb : shutB f k a p = false := by unfold shutB; rw [hx, hps, hEn, w4 (by have h0 : ¬ (1 : Int) < ((endsL C.term).length : Int) := (by simpa using ce); omega)]; rfl
     have hadd : addX f k a st p = (setI st.1 p.toNat (· ++ [x]), st.2) := by unfold addX; rw [hx, if_neg (by rw [hps]; decide)]
     obtain ⟨D, hD⟩ : ∃ D, st.1[p.toNat]? = some D := ⟨_, qq (by omega)⟩
     obtain ⟨ip, hip⟩ : ∃ ip, ids[p.toNat]? = some ip := ⟨_, qq (by omega)⟩
     have hDb := hbd D (qy hD)
     have hset : setI st.1 p.toNat (· ++ [x]) = st.1.set p.toNat { D with insts := D.insts ++ [x] } := by unfold setI; rw [hD]; rfl
     have hbl := blkIs_len (ids := ids) (bs := st.1) (by omega)
     obtain ⟨X, hX1, hX2⟩ := zip_out insO ids st.1 p.toNat hip hD
     have hX3 : ∀ i', ((i', AObj.grow 4 61 ((D.insts.map encInst).flatten ++ [encInst x].flatten)) :: X).Perm (bagIs (ids.set p.toNat i') (setI st.1 p.toNat (· ++ [x]))) := fun i' => by
      have h := hX2 i' { D with insts := D.insts ++ [x] }
      unfold insO at h
      rw [← grow_push (enc := encInst) (xs := D.insts) (x := x) (ys := D.insts ++ [x]) rfl] at h
      rw [hset]; exact h
     refine yc (GStep.bagOut (i := ip) (o := .grow 4 61 (D.insts.map encInst).flatten) (X' := X) (hX1) .t2)<|yp (γ := Nat) [1, 2, 4, 6, 8, 10, 11, 43, 44, 45] (fun u => []) (fun u => [(i10, .cells 26 [.fro 2 (f.vars.map encVar), .fro 1 (f.params.map encI), .own ib f.blocks.length]), (u, .grow 4 61 ((D.insts.map encInst).flatten ++ [encInst x].flatten)), (ib, .grow 7 58 (blkIs (ids.set p.toNat u) (setI st.1 p.toNat (· ++ [x])))), (0, bag X), (i4, .cells 26 [.raw (.slice none 0 0), .raw (.slice none 0 0), .raw (.slice none 0 0)])]) (fun u => True) ?_ (fun _ _ h => h) ?_
     ·refine zu (fun j => Nat.beq j 14) (by kernel_rfl) rfl (zm (.l (.r (.rest _))))<|zTk 0 rfl (ze underlying26 rfl sizeOf24 (by decide) rfl rfl)<|zTk 1 rfl (zl (c := .own _ _) isAgg24 rfl ⟨_, .head⟩ rfl)<|zTk 2 rfl (zMi rfl)<|zTk 3 rfl (ze underlying26 rfl sizeOf24 (by decide) rfl rfl)<|zTk 4 rfl (zl (c := .own _ _) isAgg24 rfl ⟨_, .head⟩ rfl)<|zTk 5 rfl (zMi rfl)<|zTk 9 rfl (zp isAgg61 sizeOf61 rfl rfl)<|yh (i := 6) (j := 10) rfl rfl (by kernel_rfl) ?_ ?_
      ·refine z2 (Gv.idxO (j := p.toNat) underlying24 sizeOf58 rfl rfl (by omega) ⟨_, .t1⟩ (by intro h; rw [h] at hbl; simp at hbl; omega) (by omega))<|z6<|zTk 7 rfl (ze underlying58 rfl sizeOf52 (by decide) rfl rfl)<|yh (i := 8) (j := 10) rfl rfl (by kernel_rfl) ?_ ?_
       ·refine z2 (Gv.load1G (c := _) isAgg52 rfl ⟨_, .t1⟩ (blkIs_drop hip hD))<|z6<|zOn 10 rfl<|zw (rows := [[_, _, _, _]]) ps52_1 rfl rfl rfl rfl rfl<|z6<|zOn 11 rfl<|yg (k := 4) underlying52 type61 rfl rfl rfl rfl rfl (fun _ => .head) (insts_len D.insts) (by decide) rfl (by show (_ + 1) * 48 ≤ _; omega) (by show _ + 1 ≤ _; omega)<|fun i65 => z6<|zOn 12 rfl<|z2 (Gv.idxO (j := p.toNat) underlying24 sizeOf58 rfl rfl (by omega) ⟨_, .t1⟩ (by intro h; rw [h] at hbl; simp at hbl; omega) (by omega))<|z6<|zTk 13 rfl (ze underlying58 rfl sizeOf52 (by decide) rfl rfl)<|y8<|ya (i := 14) rfl (by kernel_rfl) (by kernel_rfl)<|AOps.storeGN (new := blkIs (ids.set p.toNat i65) (setI st.1 p.toNat (· ++ [x]))) sizeOf52 rfl rfl rfl rfl rfl .t2 (by show p.toNat * 7 + 2 < _; omega) (by rw [hset, ← blkIs_set i65 (D.insts ++ [x]) (by omega) hD, qw]; rfl)<|z6<|yd (by kernel_rfl) ?_
        exact ⟨i65, zR10, trivial, zLe, trivial⟩
       ·refine zw (rows := [[_, _, _, _]]) ps52_1 rfl rfl rfl rfl rfl<|z6<|zOn 8 rfl<|z2 (Gv.load1G (c := _) isAgg52 rfl ⟨_, .t1⟩ (blkIs_drop hip hD))<|z6<|zOn 11 rfl<|yg (k := 4) underlying52 type61 rfl rfl rfl rfl rfl (fun _ => .head) (insts_len D.insts) (by decide) rfl (by show (_ + 1) * 48 ≤ _; omega) (by show _ + 1 ≤ _; omega)<|fun i65 => z6<|zOn 12 rfl<|z2 (Gv.idxO (j := p.toNat) underlying24 sizeOf58 rfl rfl (by omega) ⟨_, .t1⟩ (by intro h; rw [h] at hbl; simp at hbl; omega) (by omega))<|z6<|zTk 13 rfl (ze underlying58 rfl sizeOf52 (by decide) rfl rfl)<|y8<|ya (i := 14) rfl (by kernel_rfl) (by kernel_rfl)<|AOps.storeGN (new := blkIs (ids.set p.toNat i65) (setI st.1 p.toNat (· ++ [x]))) sizeOf52 rfl rfl rfl rfl rfl .t2 (by show p.toNat * 7 + 2 < _; omega) (by rw [hset, ← blkIs_set i65 (D.insts ++ [x]) (by omega) hD, qw]; rfl)<|z6<|yd (by kernel_rfl) ?_
        exact ⟨i65, zR10, trivial, zLe, trivial⟩
      ·refine zw (rows := [[_, _, _, _]]) ps52_1 rfl rfl rfl rfl rfl<|z6<|zOn 6 rfl<|z2 (Gv.idxO (j := p.toNat) underlying24 sizeOf58 rfl rfl (by omega) ⟨_, .t1⟩ (by intro h; rw [h] at hbl; simp at hbl; omega) (by omega))<|z6<|zTk 7 rfl (ze underlying58 rfl sizeOf52 (by decide) rfl rfl)<|zOn 8 rfl<|z2 (Gv.load1G (c := _) isAgg52 rfl ⟨_, .t1⟩ (blkIs_drop hip hD))<|z6<|zOn 11 rfl<|yg (k := 4) underlying52 type61 rfl rfl rfl rfl rfl (fun _ => .head) (insts_len D.insts) (by decide) rfl (by show (_ + 1) * 48 ≤ _; omega) (by show _ + 1 ≤ _; omega)<|fun i65 => z6<|zOn 12 rfl<|z2 (Gv.idxO (j := p.toNat) underlying24 sizeOf58 rfl rfl (by omega) ⟨_, .t1⟩ (by intro h; rw [h] at hbl; simp at hbl; omega) (by omega))<|z6<|zTk 13 rfl (ze underlying58 rfl sizeOf52 (by decide) rfl rfl)<|y8<|ya (i := 14) rfl (by kernel_rfl) (by kernel_rfl)<|AOps.storeGN (new := blkIs (ids.set p.toNat i65) (setI st.1 p.toNat (· ++ [x]))) sizeOf52 rfl rfl rfl rfl rfl .t2 (by show p.toNat * 7 + 2 < _; omega) (by rw [hset, ← blkIs_set i65 (D.insts ++ [x]) (by omega) hD, qw]; rfl)<|z6<|yd (by kernel_rfl) ?_
       exact ⟨i65, zR10, trivial, zLe, trivial⟩
     ·rintro i65 _
      refine yc (GStep.bagIn (X' := bagIs (ids.set p.toNat i65) (setI st.1 p.toNat (· ++ [x]))) .t1 ((hX3 i65)) .t2)<|zRg<|z2 (zAd rfl rfl)<|z2 (zMi rfl)<|z6 ?_
      exact ⟨(q + 1, ids.set p.toNat i65), zR8, ⟨rfl, (by rw [hsucc, hadd]; rfl), trivial⟩, ⟨_, (.refl _), by rw [hsucc, hadd]⟩, ⟨hq2, by rw [List.length_set]; exact hids, any_take hq2 hsh (by rw [hpq]; exact hsb)⟩, by dsimp only; omega⟩
  ·have hqn : q = P.length := by simp at cq; omega
   subst hqn
   rw [qv] at hsh ⊢
   obtain ⟨st, hst⟩ : ∃ st, P.foldl (addX f k a) (f.blocks, false) = st := ⟨_, rfl⟩
   have hstl : st.1.length = f.blocks.length := by rw [← hst, addX_fold_len]
   rw [hst]
   refine y4<|zd<|zSr<|z2 (zMb rfl)<|z2 (yl rfl)<|z6<|zz rfl (fun cs=>?_) (fun cs=>?_)
   ·have hs0 : st.2 = false := by simpa using cs
    refine zSr<|z2 (zp isAgg26 sizeOf26 rfl rfl)<|zq sizeOf26 rfl rfl rfl rfl rfl rfl .t3 rfl<|z2 (zAb rfl)<|z6<|zg<|afin.c1t (y := .bool _) rfl rfl ⟨_, .t3⟩ isAgg26 sizeOf26 rfl ?_
    unfold stepF; rw [if_neg (fun h => by have h3 := h.2.2.2.1; rw [ha, hP, hst, hs0] at h3; cases h3)]; rfl
   ·have hs1 : st.2 = true := by simpa using cs
    have hkeep : st.1[k]? = some B := by
     rw [← hst, fold_keep P (f.blocks, false) (fun p hp he => mayB_not hm (hP ▸ hp) (by have := (hrng p hp).1; omega))]; exact hget
    obtain ⟨ik, hik⟩ : ∃ ik, ids[k]? = some ik := ⟨_, qq (by omega)⟩
    obtain ⟨l0, x0, hl0⟩ : ∃ l0 x0, B.insts = l0 ++ [x0] := ⟨B.insts.dropLast, B.insts.getLast (by intro e; rw [e] at hBl; simp at hBl), (List.dropLast_concat_getLast _).symm⟩
    have hl1 : l0.length = a.toNat := by rw [hl0] at hBl; simp at hBl; omega
    have her : B.insts.eraseIdx a.toNat = l0 := by rw [hl0, ← hl1, List.eraseIdx_append_of_length_le (Nat.le_refl _)]; simp
    have hset : setI st.1 k (fun l => l.eraseIdx a.toNat) = st.1.set k { B with insts := l0 } := by unfold setI; rw [hkeep]; show st.1.set k { B with insts := B.insts.eraseIdx a.toNat } = _; rw [her]
    obtain ⟨M, hM⟩ : ∃ M, setI st.1 k (fun l => l.eraseIdx a.toNat) = M := ⟨_, rfl⟩
    have hMm : movedB f k a = M := by unfold movedB; rw [hP, hst]; exact hM
    rw [hM] at hset
    have hMl : M.length = f.blocks.length := by rw [hset, List.length_set, hstl]
    have hMb : ∀ c ∈ M, c.phis.length + c.insts.length ≤ 4000 := fun c hc => by
     have hb := fold_bd (f := f) (b := k) (a := a) P (f.blocks, false) 1000 hbig
     rw [hst] at hb
     rw [hset] at hc
     rcases List.mem_or_eq_of_mem_set hc with h | rfl
     ·have := hb c h; omega
     ·have : l0.length ≤ B.insts.length := by rw [hl0]; simp
      show B.phis.length + l0.length ≤ 4000
      omega
    have hbl := blkIs_len (ids := ids) (bs := st.1) (by omega)
    have hdrop : (blkIs ids st.1).drop (k * 7 + 2) = .own ik (l0.length + 1) :: (blkIs ids st.1).drop (k * 7 + 3) := by rw [blkIs_drop hik hkeep, hl0]; simp
    obtain ⟨X, hX1, hX2⟩ := zip_out insO ids st.1 k hik hkeep
    have hX0 : (bagIs ids st.1).Perm ((ik, AObj.grow 4 61 ((l0 ++ [x0]).map encInst).flatten) :: X) := by rw [← hl0]; exact hX1
    have hX3 : ∀ i', ((i', AObj.grow 4 61 (l0.map encInst).flatten) :: X).Perm (bagIs (ids.set k i') M) := fun i' => by rw [hset]; exact hX2 i' { B with insts := l0 }
    refine zh<|zd<|yc (GStep.bagOut (i := ik) (o := .grow 4 61 ((l0 ++ [x0]).map encInst).flatten) (X' := X) (hX0) .t2)<|yp (γ := Nat) [2, 4, 10] (fun j => []) (fun j => [(i10, .cells 26 [.fro 2 (f.vars.map encVar), .fro 1 (f.params.map encI), .own ib f.blocks.length]), (j, .grow 4 61 (l0.map encInst).flatten), (ib, .grow 7 58 (blkIs (ids.set k j) M)), (0, bag X), (i4, .cells 26 [.raw (.slice none 0 0), .raw (.slice none 0 0), .raw (.slice none 0 0)])]) (fun j => True) ?_ (fun _ _ h => h) ?_
    ·refine zu (fun j => Nat.beq j 15) (by kernel_rfl) rfl (zm (.l (.r (.rest _))))<|zTk 0 rfl (ze underlying26 rfl sizeOf24 (by decide) rfl rfl)<|zTk 1 rfl (zl (c := .own _ _) isAgg24 rfl ⟨_, .head⟩ rfl)<|zTk 2 rfl (zMi rfl)<|zTk 3 rfl (ze underlying26 rfl sizeOf24 (by decide) rfl rfl)<|zTk 4 rfl (zl (c := .own _ _) isAgg24 rfl ⟨_, .head⟩ rfl)<|zTk 5 rfl (zMi rfl)<|zTk 9 rfl (zMi rfl)<|zTk 10 rfl (zMi rfl)<|zTk 11 rfl (zAd rfl rfl)<|zOn 6 rfl<|z2 (Gv.idxO (j := k) underlying24 sizeOf58 rfl rfl rfl ⟨_, .t1⟩ (by intro h; rw [h] at hbl; simp at hbl; omega) (by omega))<|z6<|zTk 7 rfl (ze underlying58 rfl sizeOf52 (by decide) rfl rfl)<|zOn 8 rfl<|z2 (Gv.load1G (c := _) isAgg52 rfl ⟨_, .t1⟩ hdrop)<|z6<|zOn 12 rfl<|y1 rfl (zm (.l (.r (.r (.r (.rest _)))))) (delLast_own l0 x0 ik a (a + 1) (by omega) (by omega) (by omega)) ?_
     rintro r103 O103 ⟨j, rfl, rfl⟩
     refine z6<|zOn 13 rfl<|z2 (Gv.idxO (j := k) underlying24 sizeOf58 rfl rfl rfl ⟨_, .t1⟩ (by intro h; rw [h] at hbl; simp at hbl; omega) (by omega))<|z6<|zTk 14 rfl (ze underlying58 rfl sizeOf52 (by decide) rfl rfl)<|y8<|ya (i := 15) rfl (by kernel_rfl) (by kernel_rfl)<|AOps.storeGN (new := blkIs (ids.set k j) M) sizeOf52 rfl rfl rfl rfl rfl .t2 (by show k * 7 + 2 < _; omega) (by rw [hset, ← blkIs_set j l0 (by omega) hkeep]; rfl)<|z6<|yd (by kernel_rfl) ?_
     exact ⟨j, zR3, trivial, zLe, trivial⟩
    ·rintro j _
     refine yc (GStep.bagIn (X' := bagIs (ids.set k j) M) .t1 ((hX3 j)) .t2) ?_
     obtain ⟨ids2, hids2⟩ : ∃ ids2, ids.set k j = ids2 := ⟨_, rfl⟩
     have hidl : ids2.length = M.length := by rw [← hids2, List.length_set]; omega
     have hbl2 := blkIs_len (ids := ids2) (bs := M) hidl
     rw [hids2]
     refine yc (za (zb .t1))<|yc (za (zb .t1))<|zSr<|z2 (zAi rfl)<|z6<|zd<|zSr<|z2 (ze underlying26 rfl sizeOf24 (by decide) rfl rfl)<|z2 (zl (c := .own _ _) isAgg24 rfl ⟨_, .head⟩ rfl)<|z2 (Gv.lenO underlying24 rfl)<|z2 (zMi rfl)<|z6<|zi<|y5 (γ := Nat) [2, 4, 10, 107, 108] (fun i => [(109, .int .i64 i), (15, .int .i64 (sumI (M.take i)))]) (fun i => [(i10, .cells 26 [.fro 2 (f.vars.map encVar), .fro 1 (f.params.map encI), .own ib f.blocks.length]), (ib, .grow 7 58 (blkIs ids2 M)), (0, bag (bagIs ids2 M)), (i4, .cells 26 [.raw (.slice none 0 0), .raw (.slice none 0 0), .raw (.slice none 0 0)])]) (fun i => i ≤ M.length) (fun i => M.length - i) 0 zR2 zLe (qt _) ?_
     rintro i hi
     refine zSr<|z2 (yb rfl rfl)<|z6<|zd<|zr rfl (fun ci=>?_) (fun ci=>?_)
     ·have hi2 : i < M.length := by simp at ci; omega
      obtain ⟨ci', hci'⟩ : ∃ q, ids2[i]? = some q := ⟨_, qq (by omega)⟩
      obtain ⟨D, hD⟩ : ∃ D, M[i] = D := ⟨_, rfl⟩
      have hDg : M[i]? = some D := by rw [qq hi2, hD]
      have hDb := hMb D (hD ▸ qu hi2)
      have hs2 := sumI_bd (M.take i) (fun c hc => hMb c (List.mem_of_mem_take hc))
      rw [qz] at hs2
      have hs3 : sumI (M.take i) ≤ 4000000 := by have : min i M.length * 4000 ≤ 1000 * 4000 := Nat.mul_le_mul_right _ (by omega); omega
      have hss := sumI_succ hi2
      rw [hD] at hss
      refine zh<|zd<|zi<|zSr<|z2 (Gv.idxO (j := i) underlying24 sizeOf58 rfl rfl rfl ⟨_, .t1⟩ (by intro h; rw [h] at hbl2; simp at hbl2; omega) (by omega))<|z2 (Gv.loadAG (l := [_, _, _, _, _, _, _]) isAgg58 sizeOf58 rfl ⟨_, .t1⟩ (by intro h; rw [h] at hbl2; simp at hbl2; omega) (by omega) (blkIs_row hci' hDg))<|zy (cs := [.str ⟨#[]⟩, .raw (.slice none 0 0), .raw (.slice none 0 0), .int .i64 0, .int .i64 0, .int .i64 0, .int .i64 0]) zeroValue58 rfl rfl<|fun i17 => zq sizeOf58 rfl rfl rfl rfl rfl rfl .head rfl<|z6<|zRg<|z2 (zMi rfl)<|z2 (ze underlying58 rfl sizeOf51 (by decide) rfl rfl)<|z2 (zl (c := .fro _ _) isAgg51 rfl ⟨_, .head⟩ rfl)<|z2 (y2 underlying51 rfl)<|z2 (ze underlying58 rfl sizeOf52 (by decide) rfl rfl)<|z2 (zl (c := .own _ _) isAgg52 rfl ⟨_, .head⟩ rfl)<|z2 (Gv.lenO underlying52 rfl)<|z2 (zAd rfl rfl)<|z2 (zAd rfl rfl)<|z2 (zAi rfl)<|z6<|zRg<|z2 (zAd rfl rfl)<|z2 (zMi rfl)<|z6 ?_
      exact ⟨i + 1, zR5, ⟨rfl, (by rw [hss]; congr 1), trivial⟩, ⟨_, (.drop (.refl _)), rfl⟩, hi2, by omega⟩
     ·have hin : i = M.length := by simp at ci; omega
      subst hin
      rw [qv]
      refine y4<|zd<|zSr<|z2 (zMi rfl)<|z2 (q4 rfl rfl)<|z6<|zz rfl (fun cz=>?_) (fun cz=>?_)
      ·have hz : 1024 < sumI M := by have h0 : (1024 : Int) < (sumI M : Int) := (by simpa using cz); omega
       refine zSr<|z2 (zp isAgg26 sizeOf26 rfl rfl)<|zq sizeOf26 rfl rfl rfl rfl rfl rfl .t3 rfl<|z2 (zAb rfl)<|z6<|zg<|afin.c1t (y := .bool _) rfl rfl ⟨_, .t3⟩ isAgg26 sizeOf26 rfl ?_
       unfold stepF; rw [if_neg (fun h => by have h3 := h.2.2.2.2; rw [ha, hMm] at h3; omega)]; rfl
      ·have hz : sumI M ≤ 1024 := by have h0 : ¬ (1024 : Int) < (sumI M : Int) := (by simpa using cz); omega
       refine yc (GStep.bagKnow (cs' := (M.map encBlk).flatten) .t2 .t1 ((fun I J L vs g1 g2 g3 g4 => blkIs_know hidl g1 g2 g3 g4)))<|yc (qf (off := 2) (rows := M.map encBlk) .t1 .head rfl (by intro r hr; obtain ⟨z, _, rfl⟩ := List.mem_map.1 hr; rfl) (by decide) (by rw [qx, hMl]))<|zh<|zSr<|z2 (q9 isAgg26 sizeOf26 rfl ⟨_, .head⟩ rfl)<|zq sizeOf26 rfl rfl rfl rfl rfl rfl .t1 rfl<|z2 (zAb rfl)<|z6<|zg<|afin.c1t (y := .bool _) rfl rfl ⟨_, .t1⟩ isAgg26 sizeOf26 rfl ?_
       unfold stepF; rw [ha, if_pos ⟨rfl, h1, by rw [hP, List.any_eq_false]; intro p hp; rw [List.any_eq_false] at hsh; exact hsh p hp, by rw [hP, hst]; exact hs1, by rw [hMm]; exact hz⟩, hMm]; rfl
theorem step_bad (f : PFunc) (hf : small f) (hL : Letters E) (hp : plB f = false) (b : Int) : AFun prog E 61 [.agg (encF f), .int .i64 b] (.tup [.agg (encF f), .bool false]) := by
 refine zo func61 rfl (by decide) rfl<|zSr<|y9 (cs := _) rfl rfl rfl<|zy (cs := [.raw (.slice none 0 0), .raw (.slice none 0 0), .raw (.slice none 0 0)]) zeroValue26 rfl rfl<|fun i4 => z2 (zAb rfl)<|z6<|zSr<|z2 (zp isAgg26 sizeOf26 rfl rfl)<|zf (plook_bad f hf hL hp) rfl<|z2 (zMu rfl)<|z2 (Gv.extract (v := .raw _) rfl rfl)<|z2 (zXi rfl rfl)<|z2 (zAr rfl)<|z2 (zAi rfl)<|z6<|zd<|zSr<|z2 (zMi rfl)<|z2 (yj rfl rfl)<|z6<|yo rfl rfl<|zSr<|z2 (zp isAgg26 sizeOf26 rfl rfl)<|zq sizeOf26 rfl rfl rfl rfl rfl rfl .head rfl<|z2 (zAb rfl)<|z6<|zg<|afin.c1t (y := .bool _) rfl rfl ⟨_, .head⟩ isAgg26 sizeOf26 rfl ?_
 rfl
theorem stepF_no (f : PFunc) (b : Int) : stepF f false b = (f, false) := by unfold stepF; rw [if_neg (fun h => by cases h.1)]
theorem stepF_same {f : PFunc} {pl : Bool} {b : Int} (h : (stepF f pl b).2 = false) : (stepF f pl b).1 = f := by
 unfold stepF at h ⊢
 split
 ·rename_i hc; rw [if_pos hc] at h; cases h
 ·rfl
def OkM (f : PFunc) : Prop := small f ∧ lastP f
theorem step_spec (f : PFunc) (h : OkM f) (hL : Letters E) (b : Int) : AFun prog E 61 [.agg (encF f), .int .i64 b] (.tup [.agg (encF (stepF f (plB f) b).1), .bool (stepF f (plB f) b).2]) := by
 cases hp : plB f with
 | false => rw [stepF_no]; exact step_bad f h.1 hL hp b
 | true => exact step_ok f h.1 hL hp h.2 b
inductive Mv : PFunc → Int → Nat → PFunc → Prop
 | stop {f b} : OkM f → (stepF f (plB f) b).2 = false → Mv f b 0 f
 | go {f b n g} : OkM f → (stepF f (plB f) b).2 = true → Mv (stepF f (plB f) b).1 b n g → Mv f b (n + 1) g
theorem Mv.ok {f g : PFunc} {b : Int} {n : Nat} (h : Mv f b n g) : OkM f := by cases h <;> assumption
theorem Mv.next {f g : PFunc} {b : Int} {n : Nat} (h : Mv f b n g) : ((stepF f (plB f) b).2 = true → 0 < n ∧ Mv (stepF f (plB f) b).1 b (n - 1) g) ∧ ((stepF f (plB f) b).2 = false → (stepF f (plB f) b).1 = g) := by
 cases h with
 | stop h1 h2 => exact ⟨(fun h => by rw [h2] at h; cases h), stepF_same⟩
 | go h1 h2 h3 => exact ⟨fun _ => ⟨Nat.succ_pos _, h3⟩, (fun h => by rw [h2] at h; cases h)⟩
set_option maxHeartbeats 4000000 in
theorem Move_spec (f : PFunc) (hf : small f) (hL : Letters E) (hp : plB f = true) (tr : Nat → PFunc) (h0 : tr 0 = f) (hT : ∀ b : Nat, b < f.blocks.length → ∃ n, Mv (tr b) b n (tr (b + 1))) : AFun prog E 28 [.agg (encF f)] (.tup [.agg (encF (tr f.blocks.length)), .int .i64 0]) := by
 have hP := SingPlain_spec (E := E) f hf hL
 unfold plB at hp
 rw [hp] at hP
 have hn := hf.2.2.1
 refine zo func28 rfl (by decide) rfl<|zSr<|y9 (cs := _) rfl rfl rfl<|zy (cs := [.raw (.slice none 0 0), .raw (.slice none 0 0), .raw (.slice none 0 0)]) zeroValue26 rfl rfl<|fun i2 => z2 (zAi rfl)<|z6<|zd<|zSr<|z2 (zp isAgg26 sizeOf26 rfl rfl)<|zf (hP) rfl<|z2 (zAi rfl)<|z6<|zSr<|z2 (zMi rfl)<|z2 (yj rfl rfl)<|z6<|ym rfl rfl<|zh<|zSr<|z2 (zp isAgg26 sizeOf26 rfl rfl)<|zf (copyF_spec f hf) rfl<|zy (cs := [.raw (.slice none 0 0), .raw (.slice none 0 0), .raw (.slice none 0 0)]) zeroValue26 rfl rfl<|fun i5 => zq sizeOf26 rfl rfl rfl rfl rfl rfl .head rfl<|z6<|zd<|zSr<|z2 (zFF underlying26 rfl sizeOf24 rfl rfl)<|z2 (zLf isAgg24 rfl)<|z2 (y2 underlying24 rfl)<|z2 (zMi rfl)<|z6<|zi<|y5 (γ := Nat) [2, 5, 18] (fun b => [(19, .int .i64 b)]) (fun b => [(i5, .cells 26 (encF (tr b))), (i2, .cells 26 [.raw (.slice none 0 0), .raw (.slice none 0 0), .raw (.slice none 0 0)])]) (fun b => b ≤ f.blocks.length) (fun b => f.blocks.length - b) 0 zR1 ⟨_, (.refl _), by rw [h0]; rfl⟩ (qt _) ?_
 rintro b hb
 refine zSr<|z2 (yb rfl rfl)<|z6<|zd<|zr rfl (fun cb=>?_) (fun cb=>?_)
 ·have hb2 : b < f.blocks.length := by simp at cb; omega
  obtain ⟨n, hM⟩ := hT b hb2
  refine zh<|zd<|zi<|zSr<|z2 (zMi rfl)<|z2 (zAi rfl)<|z6<|zSr<|z2 (zAb rfl)<|z6<|zi<|y5 (γ := PFunc × Bool × Nat) [2, 5, 6, 18, 19] (fun g => [(7, .bool g.2.1)]) (fun g => [(i5, .cells 26 (encF g.1)), (i2, .cells 26 [.raw (.slice none 0 0), .raw (.slice none 0 0), .raw (.slice none 0 0)])]) (fun g => (g.2.1 = true → Mv g.1 b g.2.2 (tr (b + 1))) ∧ (g.2.1 = false → g.1 = tr (b + 1))) (fun g => (if g.2.1 = true then g.2.2 + 1 else 0)) (tr b, true, n) zR1 zLe (⟨fun _ => hM, fun h => by cases h⟩) ?_
  rintro ⟨cur, ag, n⟩ ⟨hg1, hg2⟩
  try dsimp only at *
  refine zd<|zSr<|z2 (zMb rfl)<|z6<|zz rfl (fun ca=>?_) (fun ca=>?_)
  ·obtain rfl : ag = true := ca
   have hM := hg1 rfl
   obtain ⟨hx1, hx2⟩ := hM.next
   refine zh<|zi<|zRg<|z2 (q9 isAgg26 sizeOf26 rfl ⟨_, .head⟩ rfl)<|z2 (zMi rfl)<|zf (step_spec cur hM.ok hL b) rfl<|z2 (zMu rfl)<|z2 (Gv.extract (v := .agg _) rfl rfl)<|z2 (zXb rfl rfl)<|zq sizeOf26 rfl rfl rfl rfl rfl rfl .head rfl<|z2 (zAb rfl)<|z6 ?_
   exact ⟨((stepF cur (plB cur) b).1, (stepF cur (plB cur) b).2, n - 1), zR5, zR1, zLe, ⟨fun h => (hx1 h).2, hx2⟩, by dsimp only; cases hc : (stepF cur (plB cur) b).2 with | false => simp | true => have := (hx1 hc).1; simp; omega⟩
  ·obtain rfl : ag = false := ca
   refine y4<|zRg<|z2 (zAd rfl rfl)<|z2 (zMi rfl)<|z6 ?_
   exact ⟨b + 1, zR3, zR1, ⟨_, (.refl _), by rw [hg2 rfl]⟩, hb2, by omega⟩
 ·obtain rfl : b = f.blocks.length := by simp at cb; omega
  refine y4<|zSr<|z2 (q9 isAgg26 sizeOf26 rfl ⟨_, .head⟩ rfl)<|zq sizeOf26 rfl rfl rfl rfl rfl rfl .t1 rfl<|z2 (zAi rfl)<|z6<|zg<|afin.c1t (y := .int _ _) rfl rfl ⟨_, .t1⟩ isAgg26 sizeOf26 rfl ?_
  rfl
end Go.Proofs.YtiojekbkamegdaaGreatDoor
namespace Go.Proofs.YtiojekbkamegdaaGreatDoor
open Go.Proofs.Tryz
end Go.Proofs.YtiojekbkamegdaaGreatDoor
namespace Go.Proofs.YtiojekbkamegdaaGreatDoor
open Go.Proofs.Tryz
open Go.Proofs Go.Lib Go.Shelf Go.RowKit
variable {E : World}
set_option maxRecDepth 20000
theorem chkNum_spec (op : Int) (h : 0 ≤ op ∧ op ≤ 26) : AFun prog E 159 [.int .i64 op] (.int .i64 (if 18 ≤ op ∧ op ≤ 24 then op - 17 else 0)) := by
 refine zo func159 rfl (by decide) rfl<|zSr<|z2 (zAi rfl)<|z6<|zd<|zSr<|z2 (zMi rfl)<|z2 (yb rfl rfl)<|z2 (zMb rfl)<|zt (s := 5) rfl (fun c1=>?_) (fun c1=>?_)
 ·have h1 : op < 18 := by simpa using c1
  refine z7 rfl rfl c1<|z7 rfl rfl c1<|z2 (zPt rfl c1 rfl)<|z6<|yo rfl rfl<|zSr<|z2 (zAi rfl)<|z6<|zg<|zk (x := .int _ _) rfl ?_
  rw [if_neg (by omega)]
 ·have h1 : ¬ op < 18 := by simpa using c1
  refine z8 rfl rfl c1<|z2 (zMi rfl)<|z8 rfl rfl c1<|z2 (q4 rfl rfl)<|z2 (zPf rfl c1 rfl)<|z6<|zz rfl (fun c2=>?_) (fun c2=>?_)
  ·have h2 : 24 < op := by simpa using c2
   refine zSr<|z2 (zAi rfl)<|z6<|zg<|zk (x := .int _ _) rfl ?_
   rw [if_neg (by omega)]
  ·have h2 : ¬ 24 < op := by simpa using c2
   refine zh<|zSr<|z2 (zMi rfl)<|z2 (Gv.sub rfl rfl (by unfold I64; omega))<|z2 (zAi rfl)<|z6<|zg<|zk (x := .int _ _) rfl ?_
   rw [if_pos (by omega)]
end Go.Proofs.YtiojekbkamegdaaGreatDoor
namespace Go.Proofs.YtiojekbkamegdaaGreatDoor
open Go.Proofs.Tryz
open Go.Proofs Go.Lib Go.Shelf Go.RowKit
variable {E : World}
set_option maxRecDepth 20000
end Go.Proofs.YtiojekbkamegdaaGreatDoor
namespace Go.Proofs.YtiojekbkamegdaaGreatDoor
open Go.Proofs.Tryz
open Go.Proofs
def Imp (x y : AV) : Prop := ∀ I v, RepV I x v → RepV I y v
def ImpL (xs ys : List AV) : Prop := ∀ I vs, RepL I xs vs → RepL I ys vs
theorem Imp.refl (x : AV) : Imp x x := fun _ _ h => h
theorem Imp.nil (k : Nat) : Imp (.raw (.slice none 0 0)) (.fro k []) := fun _ _ h => ⟨none, 0, 0, h, rfl, Nat.le_refl _, fun _ => rfl, trivial⟩
theorem ImpL.nil : ImpL [] [] := fun _ _ h => h
theorem ImpL.cons {x y : AV} {xs ys : List AV} (h : Imp x y) (hs : ImpL xs ys) : ImpL (x :: xs) (y :: ys) := fun I _ ⟨v, us, e, h1, h2⟩ => ⟨v, us, e, h I v h1, hs I us h2⟩
theorem Imp.agg {xs ys : List AV} (h : ImpL xs ys) : Imp (.agg xs) (.agg ys) := fun I _ ⟨vs, e, h1⟩ => ⟨vs, e, h I vs h1⟩
end Go.Proofs.YtiojekbkamegdaaGreatDoor
namespace Go.Proofs.YtiojekbkamegdaaGreatDoor
open Go.Proofs.Tryz
open Go.Proofs Go.Lib Go.Shelf Go.RowKit
variable {E : World}
set_option maxRecDepth 20000
end Go.Proofs.YtiojekbkamegdaaGreatDoor
namespace Go.Proofs.YtiojekbkamegdaaGreatDoor
open Go.Proofs.Tryz
open Go.Proofs Go.Lib Go.Shelf Go.RowKit
theorem pl79 : Places prog 79 #[(0, 1), (1, 1)] [.str ⟨#[]⟩, .int .i64 0] := ⟨_, _, underlying79, zeroValue79, fun w => by kernel_rfl, rfl⟩
theorem ps22_2 : PlacesS prog 22 79 2 2 [.str ⟨#[]⟩, .int .i64 0, .str ⟨#[]⟩, .int .i64 0] := ⟨_, underlying22, sizeOf79, zeroValue79, by decide, by decide, by kernel_rfl⟩
theorem pl56 : Places prog 56 #[(0, 1), (1, 1), (2, 2)] [.int .i64 0, .int .i64 0, .int .i64 0, .int .i64 0] := ⟨_, _, underlying56, zeroValue56, fun w => by kernel_rfl, rfl⟩
theorem ps24_4 : PlacesS prog 24 58 4 7 [.str ⟨#[]⟩, .raw (.slice none 0 0), .raw (.slice none 0 0), .int .i64 0, .int .i64 0, .int .i64 0, .int .i64 0, .str ⟨#[]⟩, .raw (.slice none 0 0), .raw (.slice none 0 0), .int .i64 0, .int .i64 0, .int .i64 0, .int .i64 0, .str ⟨#[]⟩, .raw (.slice none 0 0), .raw (.slice none 0 0), .int .i64 0, .int .i64 0, .int .i64 0, .int .i64 0, .str ⟨#[]⟩, .raw (.slice none 0 0), .raw (.slice none 0 0), .int .i64 0, .int .i64 0, .int .i64 0, .int .i64 0] := ⟨_, underlying24, sizeOf58, zeroValue58, by decide, by decide, by kernel_rfl⟩
variable {E : World}
set_option maxRecDepth 20000
def chk36 : PInst := ⟨20, -1, [0], 0⟩
def diaF (l r z : List PInst) : PFunc := ⟨[⟨⟨#[110]⟩, 0⟩, ⟨⟨#[99]⟩, 1⟩], [0, 1], [⟨⟨#[97]⟩, [], [], ⟨1, 1, 1, 2⟩⟩, ⟨⟨#[108]⟩, [], l, ⟨0, 0, 3, 0⟩⟩, ⟨⟨#[114]⟩, [], r, ⟨0, 0, 3, 0⟩⟩, ⟨⟨#[122]⟩, [], z, ⟨2, 0, 0, 0⟩⟩]⟩
theorem diamond_TF : AFun prog E 27 [.bool true, .bool false] (.agg (encF (diaF [chk36] [] [chk36]))) := by
 refine zo func27 rfl (by decide) rfl<|zSr<|zy (cs := [.raw (.slice none 0 0), .raw (.slice none 0 0), .raw (.slice none 0 0)]) zeroValue26 rfl rfl<|fun i4 => z6<|zSr<|zw (rows := [[_]]) ps23_1 rfl rfl rfl rfl rfl<|z2 (zx (cps := [(0, [_]), (1, [_]), (2, [_])]) (rs := [_, _, _, .int .i64 0]) pl61 rfl rfl rfl)<|zw (rows := [[_, _, _, _]]) ps52_1 rfl rfl rfl rfl rfl<|z2 (zAf rfl)<|z6<|zSr<|z2 (zx (cps := [(0, [_])]) (rs := [_, .int .i64 0]) pl79 rfl rfl rfl)<|z2 (zx (cps := [(0, [_]), (1, [_])]) (rs := [_, _]) pl79 rfl rfl rfl)<|zw (rows := [[_, _], [_, _]]) ps22_2 rfl rfl rfl rfl rfl<|zw (rows := [[_], [_]]) ps23_2 rfl rfl rfl rfl rfl<|z2 (Gv.buildA (cps := [(0, [_]), (1, [_])]) (rs := [_, _]) pl54 rfl rfl rfl)<|z2 (zx (cps := [(0, [_]), (1, [_]), (2, [_, _])]) (rs := [_, _, _, _]) pl56 rfl rfl rfl)<|z2 (zx (cps := [(0, [_]), (3, [_, _, _, _])]) (rs := [_, .raw (.slice none 0 0), .raw (.slice none 0 0), _, _, _, _]) pl58 rfl rfl rfl)<|zc (GStep.slot (t := 16) rfl (Imp.agg (.cons (.refl _) (.cons (.nil 3) (.cons (.nil 4) (.cons (.refl _) (.cons (.refl _) (.cons (.refl _) (.cons (.refl _) .nil)))))))))<|z2 (Gv.buildA (cps := [(0, [_]), (1, [_])]) (rs := [_, _]) pl54 rfl rfl rfl)<|z2 (zx (cps := [(2, [_, _])]) (rs := [.int .i64 0, .int .i64 0, _, _]) pl56 rfl rfl rfl)<|z2 (zx (cps := [(0, [_]), (3, [_, _, _, _])]) (rs := [_, .raw (.slice none 0 0), .raw (.slice none 0 0), _, _, _, _]) pl58 rfl rfl rfl)<|zc (GStep.slot (t := 19) rfl (Imp.agg (.cons (.refl _) (.cons (.nil 3) (.cons (.nil 4) (.cons (.refl _) (.cons (.refl _) (.cons (.refl _) (.cons (.refl _) .nil)))))))))<|z2 (Gv.buildA (cps := [(0, [_]), (1, [_])]) (rs := [_, _]) pl54 rfl rfl rfl)<|z2 (zx (cps := [(2, [_, _])]) (rs := [.int .i64 0, .int .i64 0, _, _]) pl56 rfl rfl rfl)<|z2 (zx (cps := [(0, [_]), (3, [_, _, _, _])]) (rs := [_, .raw (.slice none 0 0), .raw (.slice none 0 0), _, _, _, _]) pl58 rfl rfl rfl)<|zc (GStep.slot (t := 22) rfl (Imp.agg (.cons (.refl _) (.cons (.nil 3) (.cons (.nil 4) (.cons (.refl _) (.cons (.refl _) (.cons (.refl _) (.cons (.refl _) .nil)))))))))<|z2 (zMf rfl)<|z2 (zx (cps := [(0, [_])]) (rs := [_, .int .i64 0, .int .i64 0, .int .i64 0]) pl56 rfl rfl rfl)<|z2 (zx (cps := [(0, [_]), (2, [_]), (3, [_, _, _, _])]) (rs := [_, .raw (.slice none 0 0), _, _, _, _, _]) pl58 rfl rfl rfl)<|zc (GStep.slot (t := 25) rfl (Imp.agg (.cons (.refl _) (.cons (.nil 3) (.cons (.refl _) (.cons (.refl _) (.cons (.refl _) (.cons (.refl _) (.cons (.refl _) .nil)))))))))<|AOps.buildSliceO (cps := [(0, [_, _, _, _, _, _, _]), (1, [_, _, _, _, _, _, _]), (2, [_, _, _, _, _, _, _]), (3, [_, _, _, _, _, _, _])]) (rs := [_, _, _, _, _, _, _, _, _, _, _, _, _, _, _, _, _, _, _, _, _, _, _, _, _, _, _, _]) ps24_4 rfl rfl rfl rfl rfl<|fun i26 => z2 (zx (cps := [(0, [_]), (1, [_]), (2, [_])]) (rs := [_, _, _]) pl26 rfl rfl rfl)<|zy (cs := [.raw (.slice none 0 0), .raw (.slice none 0 0), .raw (.slice none 0 0)]) zeroValue26 rfl rfl<|fun i6 => zq sizeOf26 rfl rfl rfl rfl rfl rfl .head rfl<|z6<|zd<|zSr ?_
 refine z2 (zMb rfl)<|z6<|yo rfl rfl<|zRg<|z2 (ze underlying26 rfl sizeOf24 (by decide) rfl rfl)<|z2 (zl (c := .own _ _) isAgg24 rfl ⟨_, .head⟩ rfl)<|z2 (zMf rfl)<|z2 (Gv.idxO (j := 1) underlying24 sizeOf58 rfl rfl rfl ⟨_, .t1⟩ (by intro h; cases h) (by omega))<|z2 (ze underlying58 rfl sizeOf52 (by decide) rfl rfl)<|AOps.storeGN (new := _) sizeOf52 rfl rfl rfl rfl rfl .t1 (by show 9 < 28; omega) rfl<|z6<|zd<|zSr<|z2 (zMb rfl)<|z6<|ym rfl rfl<|yc (qf (off := 2) (rows := (diaF [chk36] [] [chk36]).blocks.map encBlk) .t1 .head rfl (by decide) (by decide) (by rfl))<|zh<|zSr<|z2 (q9 isAgg26 sizeOf26 rfl ⟨_, .head⟩ rfl)<|zq sizeOf26 rfl rfl rfl rfl rfl rfl .t1 rfl<|z6<|zg<|afin.c1 rfl ⟨_, .t1⟩ isAgg26 sizeOf26 rfl ?_
 rfl
def preF : PFunc := diaF [chk36] [] [chk36]
def preG : PFunc := diaF [chk36] [chk36] []
theorem small_pre : small preF ∧ small preG := by unfold small preF preG diaF chk36; simp [smallBlk]; decide
theorem lastP_of {f : PFunc} (h : ∀ k, k < f.blocks.length → 0 ≤ firstF f (k : Int) → (instsAt f (k : Int)).length = (firstF f (k : Int)).toNat + 1) : lastP f := fun b hb => by
 obtain ⟨k, B, rfl, hget, _⟩ := first_ge hb
 exact h k (List.getElem?_eq_some_iff.1 hget).1 hb
theorem last_F : lastP preF := lastP_of (by decide +kernel)
theorem last_G : lastP preG := lastP_of (by decide +kernel)
theorem pl_F : plB preF = true := by decide +kernel
theorem pl_G : plB preG = true := by decide +kernel
theorem step_0 : (stepF preF true 0).2 = false ∧ (stepF preF true 1).2 = false ∧ (stepF preF true 2).2 = false := by decide +kernel
theorem step_3 : stepF preF true 3 = (preG, true) := by decide +kernel
theorem step_4 : (stepF preG true 3).2 = false := by decide +kernel
def trF (b : Nat) : PFunc := if b ≤ 3 then preF else preG
theorem tr_ok (b : Nat) (h : b < preF.blocks.length) : ∃ n, Mv (trF b) b n (trF (b + 1)) := by
 have h : b < 4 := h
 have hF : OkM preF := ⟨small_pre.1, last_F⟩
 have hG : OkM preG := ⟨small_pre.2, last_G⟩
 obtain rfl | rfl | rfl | rfl : b = 0 ∨ b = 1 ∨ b = 2 ∨ b = 3 := by omega
 ·exact ⟨0, .stop hF (by show (stepF preF (plB preF) 0).2 = false; rw [pl_F]; exact step_0.1)⟩
 ·exact ⟨0, .stop hF (by show (stepF preF (plB preF) 1).2 = false; rw [pl_F]; exact step_0.2.1)⟩
 ·exact ⟨0, .stop hF (by show (stepF preF (plB preF) 2).2 = false; rw [pl_F]; exact step_0.2.2)⟩
 ·refine ⟨1, .go hF (by show (stepF preF (plB preF) 3).2 = true; rw [pl_F, step_3]) ?_⟩
  show Mv (stepF preF (plB preF) 3).1 3 0 preG
  rw [pl_F, step_3]
  exact .stop hG (by rw [pl_G]; exact step_4)
theorem lives36_spec (hL : Letters E) : AFun prog E 26 [] (.bool true) := by
 have hM := Move_spec (E := E) preF small_pre.1 hL pl_F trF rfl tr_ok
 refine zo func26 rfl (by decide) rfl<|zSr<|z2 (zAb rfl)<|z6<|zSr<|zf (diamond_TF) rfl<|zf (hM) rfl<|z2 (zMu rfl)<|z2 (Gv.extract (v := .agg _) rfl rfl)<|z2 (zXi rfl rfl)<|zy (cs := [.raw (.slice none 0 0), .raw (.slice none 0 0), .raw (.slice none 0 0)]) zeroValue26 rfl rfl<|fun i1 => zq sizeOf26 rfl rfl rfl rfl rfl rfl .head rfl<|zc (yk (t := 1) rfl .head)<|z2 (zAi rfl)<|z6<|zSr<|z2 (zMi rfl)<|z2 (y7 rfl rfl)<|z2 (zMb rfl)<|z8 rfl rfl rfl<|z2 (zFF underlying26 rfl sizeOf24 rfl rfl)<|z8 rfl rfl rfl<|z2 (zLf isAgg24 rfl)<|z8 rfl rfl rfl<|z2 (y2 underlying24 rfl)<|z8 rfl rfl rfl<|z2 (y7 rfl rfl)<|z2 (zPt rfl rfl rfl)<|z2 (zMb rfl)<|z8 rfl rfl rfl<|z2 (zFF underlying26 rfl sizeOf24 rfl rfl)<|z8 rfl rfl rfl<|z2 (zLf isAgg24 rfl)<|z8 rfl rfl rfl<|z2 (zIM 2 underlying24 sizeOf58 rfl rfl rfl rfl)<|z8 rfl rfl rfl<|z2 (zFF underlying58 rfl sizeOf52 rfl rfl)<|z8 rfl rfl rfl<|z2 (zLf isAgg52 rfl)<|z8 rfl rfl rfl ?_
 refine z2 (y2 underlying52 rfl)<|z8 rfl rfl rfl<|z2 (y7 rfl rfl)<|z2 (zPt rfl rfl rfl)<|z2 (zMb rfl)<|z8 rfl rfl rfl<|z2 (zFF underlying26 rfl sizeOf24 rfl rfl)<|z8 rfl rfl rfl<|z2 (zLf isAgg24 rfl)<|z8 rfl rfl rfl<|z2 (zIM 3 underlying24 sizeOf58 rfl rfl rfl rfl)<|z8 rfl rfl rfl<|z2 (zFF underlying58 rfl sizeOf52 rfl rfl)<|z8 rfl rfl rfl<|z2 (zLf isAgg52 rfl)<|z8 rfl rfl rfl<|z2 (y2 underlying52 rfl)<|z8 rfl rfl rfl<|z2 (y7 rfl rfl)<|z2 (zPt rfl rfl rfl)<|z2 (zMb rfl)<|z8 rfl rfl rfl<|z2 (zFF underlying26 rfl sizeOf24 rfl rfl)<|z8 rfl rfl rfl<|z2 (zLf isAgg24 rfl)<|z8 rfl rfl rfl<|z2 (zIM 2 underlying24 sizeOf58 rfl rfl rfl rfl)<|z8 rfl rfl rfl<|z2 (zFF underlying58 rfl sizeOf52 rfl rfl)<|z8 rfl rfl rfl<|z2 (zLf isAgg52 rfl)<|z8 rfl rfl rfl<|z2 (zIM 0 underlying52 sizeOf61 rfl rfl rfl rfl)<|z8 rfl rfl rfl<|z2 (zFF underlying61 rfl sizeOf59 rfl rfl)<|z8 rfl rfl rfl<|z2 (zLi isAgg59 rfl)<|z8 rfl rfl rfl<|z2 (y7 rfl rfl)<|z2 (zPt rfl rfl rfl)<|z2 (zAb rfl) ?_
 refine z6<|zg<|zk (x := .bool _) rfl ?_
 rfl
end Go.Proofs.YtiojekbkamegdaaGreatDoor
namespace Go.Proofs.YtiojekbkamegdaaGreatDoor
open Go.Proofs.Tryz
def isChk (q : Int) : Prop := 21 ≤ q ∧ q ≤ 23
instance (q : Int) : Decidable (isChk q) := by unfold isChk; infer_instance
def Done (f : PFunc) (i k : Nat) (v : Int) : Prop := ∃ (i' k' : Nat) (b : PBlock) (z : PInst), f.blocks[i']? = some b ∧ b.insts[k']? = some z ∧ z.dst = v ∧ chkX f z i' k' = true ∧ (i' < i ∨ i' = i ∧ k' < k)
theorem Done.step {f : PFunc} {i k : Nat} {b : PBlock} {z : PInst} (h1 : f.blocks[i]? = some b) (h2 : b.insts[k]? = some z) (v : Int) : Done f i (k + 1) v ↔ Done f i k v ∨ (v = z.dst ∧ chkX f z i k = true) := by
 constructor
 ·rintro ⟨i', k', b', z', g1, g2, g3, g4, g5⟩
  by_cases e : i' = i ∧ k' = k
  ·obtain ⟨rfl, rfl⟩ := e
   rw [h1] at g1; cases g1
   rw [h2] at g2; cases g2
   exact .inr ⟨g3.symm, g4⟩
  ·exact .inl ⟨i', k', b', z', g1, g2, g3, g4, by omega⟩
 ·rintro (⟨i', k', b', z', g1, g2, g3, g4, g5⟩ | ⟨rfl, h⟩)
  ·exact ⟨i', k', b', z', g1, g2, g3, g4, by omega⟩
  ·exact ⟨i, k, b, z, h1, h2, rfl, h, .inr ⟨rfl, by omega⟩⟩
theorem Done.next {f : PFunc} {i : Nat} {b : PBlock} (h1 : f.blocks[i]? = some b) (v : Int) : Done f (i + 1) 0 v ↔ Done f i b.insts.length v := by
 constructor
 ·rintro ⟨i', k', b', z', g1, g2, g3, g4, g5⟩
  refine ⟨i', k', b', z', g1, g2, g3, g4, ?_⟩
  by_cases e : i' = i
  ·subst e
   rw [h1] at g1; cases g1
   exact .inr ⟨rfl, (List.getElem?_eq_some_iff.1 g2).1⟩
  ·exact .inl (by omega)
 ·rintro ⟨i', k', b', z', g1, g2, g3, g4, g5⟩
  exact ⟨i', k', b', z', g1, g2, g3, g4, .inl (by omega)⟩
theorem Done.zero (f : PFunc) (v : Int) : ¬ Done f 0 0 v := by
 rintro ⟨i', k', b', z', g1, g2, g3, g4, g5⟩; omega
theorem Done.all {f : PFunc} (ho : OnceP f) {v : Nat} (hv : v < f.vars.length) : Done f f.blocks.length 0 v ↔ chkV f v = true := by
 constructor
 ·rintro ⟨i', k', b', z', g1, g2, g3, g4, g5⟩
  have hm : ((i' : Int), (k' : Int)) ∈ makings f v := mem_makings.2 ⟨i', b', g1, mem_mkBlk.2 (.inr ⟨k', z', g2, g3, rfl⟩)⟩
  have := maker_eq (ho v hv).1 hm
  rw [chkV_at g1 g2 this]; exact g4
 ·intro h
  by_cases h0 : 0 ≤ (makerT f v).1
  ·obtain ⟨i, b, h1, ⟨p, h2, h3, h4⟩ | ⟨k, x, h2, h3, h4⟩⟩ := maker_cases h0
   ·unfold chkV instAt at h
    rw [h4, if_neg (by dsimp only; omega)] at h
    cases h
   ·rw [chkV_at h1 h2 h4] at h
    exact ⟨i, k, b, x, h1, h2, h3, h, .inl (List.getElem?_eq_some_iff.1 h1).1⟩
  ·unfold chkV instAt at h
   rw [if_neg (fun hh => h0 hh.1)] at h
   cases h
end Go.Proofs.YtiojekbkamegdaaGreatDoor
namespace Go.Proofs.YtiojekbkamegdaaGreatDoor
open Go.Proofs.Tryz
end Go.Proofs.YtiojekbkamegdaaGreatDoor
namespace Go.Proofs.YtiojekbkamegdaaGreatDoor
open Go.Proofs.Tryz
section
variable {n : Nat} {rule : List Rng → Int → Rng} {vs : List Int} {phi : Int → Prop} {rank : Int → Nat}
def SameR (vs : List Int) (phi : Int → Prop) (rank : Int → Nat) (m : Nat) (l l' : List Rng) : Prop := ∀ u : Int, 0 ≤ u → (u ∉ vs ∨ phi u ∨ rank u < m) → lv l u = lv l' u
theorem SameR.le {m k : Nat} {l l' : List Rng} (h : SameR vs phi rank m l l') (hk : k ≤ m) : SameR vs phi rank k l l' := fun u hu hc => h u hu (by
 rcases hc with hc | hc | hc
 ·exact .inl hc
 ·exact .inr (.inl hc)
 ·exact .inr (.inr (by omega)))
end
section
variable {n : Nat} {rule : List Rng → Int → Rng} {vs : List Int} {phi : Int → Prop} {t : Int → Rng}
end
end Go.Proofs.YtiojekbkamegdaaGreatDoor
