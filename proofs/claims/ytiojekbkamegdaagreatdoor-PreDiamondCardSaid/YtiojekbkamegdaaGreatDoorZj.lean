/- The tree of what is above what: made, and asked. Of programs that are little. -/
import Derived.Test.YtiojekbkamegdaaGreatDoorZi
set_option linter.unusedVariables false
set_option linter.unusedSimpArgs false
set_option linter.unusedSectionVars false
namespace Go.Proofs.YtiojekbkamegdaaGreatDoor
open Go.Proofs.Tryz
open Go.Proofs
variable {E : World}
set_option maxRecDepth 20000
theorem indexO_spec (xs : List Int) (v : Int) (i : Nat) (T : TypeId) (hl : xs.length ≤ 281474976710656) : ACall prog E 169 [.own i xs.length, .int .i64 v] [(i, .grow 1 T (cI xs))] fun r O => r = .int .i64 (firstI (fun x => decide (v = x)) xs 0) ∧ O = [(i, .grow 1 T (cI xs))] := by
 refine zo func169 rfl (by decide) rfl<|zSr<|z2 (zAi rfl)<|z6<|zd<|zSr<|z2 (zMo rfl)<|z2 (Gv.lenO underlying23 rfl)<|z2 (zMi rfl)<|z6<|zi<|y5 (γ := Nat) [0, 1, 7] (fun k => [(8, .int .i64 k)]) (fun k => [(i, .grow 1 T (cI xs))]) (fun k => k ≤ xs.length ∧ (xs.take k).all (fun x => !decide (v = x))) (fun k => xs.length - k) 0 zR1 zLe (⟨qt _, rfl⟩) ?_
 rintro k ⟨hk, hall⟩
 refine zSr<|z2 (yb rfl rfl)<|z6<|zd<|zr rfl (fun ck=>?_) (fun ck=>?_)
 ·have hk2 : k < xs.length := by simp at ck; omega
  refine zh<|zd<|zi<|zSr<|z2 (zMi rfl)<|z2 (zAi rfl)<|z6<|zSr<|z2 (zMi rfl)<|z2 (zMo rfl)<|z2 (zMi rfl)<|z2 (yf (j := k) underlying23 sizeOf3 rfl rfl rfl ⟨_, .head⟩ (by first | rfl | (simp [cI_len, cB_len]; done) | (simp [cI_len, cB_len]; omega)) hk2)<|z2 (yt (j := k) isAgg3 rfl ⟨_, .head⟩ (qq hk2))<|z2 (y7 rfl rfl)<|z6<|zz rfl (fun cp=>?_) (fun cp=>?_)
  ·refine zSr<|z2 (zMi rfl)<|z2 (zAi rfl)<|z6<|zg<|zk (x := .int _ _) rfl ?_
   exact ⟨by rw [firstI_drop _ xs k hk hall, List.drop_eq_getElem_cons hk2, firstI, if_pos (by simpa using cp)], rfl⟩
  ·refine zh<|zRg<|z2 (zAd rfl rfl)<|z2 (zMi rfl)<|z6 ?_
   exact ⟨k + 1, zR3, zR1, zLe, ⟨hk2, by rw [qr hk2, List.all_append, hall]; simpa using cp⟩, by omega⟩
 ·have hkn : k = xs.length := by simp at ck; omega
  refine y4<|zSr<|z2 (zAi rfl)<|z6<|zg<|zk (x := .int _ _) rfl ?_
  exact ⟨by rw [firstI_drop _ xs k hk hall, hkn, List.drop_length, firstI], rfl⟩
theorem containsO_spec (xs : List Int) (v : Int) (i : Nat) (T : TypeId) (hl : xs.length ≤ 281474976710656) : ACall prog E 154 [.own i xs.length, .int .i64 v] [(i, .grow 1 T (cI xs))] fun r O => r = .bool (xs.contains v) ∧ O = [(i, .grow 1 T (cI xs))] := by
 refine zo func154 rfl (by decide) rfl<|zSr<|z2 (zAb rfl)<|z6<|zSr<|z2 (zMo rfl)<|z2 (zMi rfl)<|y1 rfl (zm (.l (.rest _))) (indexO_spec xs v i T hl) ?_
 rintro r7 O7 ⟨rfl, rfl⟩
 refine z2 (q6 rfl rfl)<|z2 (zAb rfl)<|z6<|zg<|zk (x := .bool _) rfl ?_
 exact ⟨by rw [firstI_ge]; congr 1; rw [Bool.eq_iff_iff]; simp, rfl⟩
theorem containsE_spec (xs : List Int) (v : Int) (i : Nat) (T : TypeId) (hl : xs.length ≤ 281474976710656) : ACall prog E 154 [.own i xs.length, .int .i64 v] [(i, .grow eI.k T (eI.av xs))] fun r O => r = .bool (xs.contains v) ∧ O = [(i, .grow eI.k T (eI.av xs))] := by rw [eI_av]; exact containsO_spec xs v i T hl
theorem sortE_own (l : List Int) (i : Nat) (T : TypeId) (hl : l.length ≤ 200000) : ACall prog E 155 [.own i l.length] [(i, .grow eI.k T (eI.av l))] fun r O => r = .tup [] ∧ O = [(i, .grow eI.k T (eI.av (sortI l)))] := by rw [eI_av, eI_av]; exact sort_own l i T hl
def FrI (n : Nat) (rows : List (List Int)) : Prop := rows.length = n ∧ ∀ r ∈ rows, r.Nodup ∧ ∀ x ∈ r, 0 ≤ x ∧ x < n
theorem FrI.len {n : Nat} {rows : List (List Int)} (h : FrI n rows) {r : List Int} (hr : r ∈ rows) : r.length ≤ n := by
 have := nodup_len r (intsTo n) (h.2 r hr).1 fun x hx => mem_intsTo.2 ((h.2 r hr).2 x hx)
 rwa [intsTo_len] at this
theorem FrI.push {n : Nat} {rows : List (List Int)} (h : FrI n rows) {j : Nat} (hj : j < rows.length) {b : Int} (h0 : 0 ≤ b) (hb : b < n) (hn : b ∉ rows[j]) : FrI n (rows.set j (rows[j] ++ [b])) := by
 refine ⟨by rw [List.length_set]; exact h.1, fun r hr => ?_⟩
 rcases List.mem_or_eq_of_mem_set hr with hr | rfl
 ·exact h.2 r hr
 ·obtain ⟨g1, g2⟩ := h.2 _ (qu hj)
  refine ⟨List.nodup_append.2 ⟨g1, by simp, fun x hx y hy e => ?_⟩, fun x hx => ?_⟩
  ·simp at hy; subst hy; subst e; exact hn hx
  ·rcases List.mem_append.1 hx with hx | hx
   ·exact g2 x hx
   ·simp at hx; subst hx; exact ⟨h0, hb⟩
theorem FrI.sort {n : Nat} {rows : List (List Int)} (h : FrI n rows) {j : Nat} (hj : j < rows.length) : FrI n (rows.set j (sortI rows[j])) := by
 refine ⟨by rw [List.length_set]; exact h.1, fun r hr => ?_⟩
 rcases List.mem_or_eq_of_mem_set hr with hr | rfl
 ·exact h.2 r hr
 ·obtain ⟨g1, g2⟩ := h.2 _ (qu hj)
  exact ⟨(sortI_perm _).nodup_iff.2 g1, fun x hx => g2 x ((sortI_perm _).mem_iff.1 hx)⟩
theorem FrI.begin (n : Nat) : FrI n (List.replicate n []) := ⟨by simp, fun r hr => by rw [List.eq_of_mem_replicate hr]; exact ⟨by simp, fun x hx => by cases hx⟩⟩
section
variable {S : Int → List Int} {n : Nat} (hG : Grph S n)
include hG
theorem front_begin {c p : Int} (hc : c ∈ orderT S n) (hp : p ∈ orderT S n) (he : c ∈ S p) : c = 0 ∨ Anc (gi (nearG S n)) p (gi (nearG S n) c) := by
 by_cases h0 : c = 0
 ·exact .inl h0
 ·right
  have hX := hG.exact
  have hO := hG.gok.ord
  have hb := hX.has c hc
  obtain ⟨g1, g2, g3⟩ := hX.inv.near c h0 hb
  have hd : Dom S (gi (nearG S n) c) c := (hX.anc c _ hc).1 (.up h0 hb (.refl _))
  exact (hX.anc p _ hp).2 (hd.pred ((hO.mem p).1 hp) he (fun e => by rw [e] at g3; omega))
theorem front_step {c y : Int} (hc : c ∈ orderT S n) (hy : (y ∈ orderT S n ∧ (c = 0 ∨ Anc (gi (nearG S n)) y (gi (nearG S n) c))) ∨ (c = 0 ∧ y = -1)) (hne : y ≠ gi (nearR S n) c) :
  y ∈ orderT S n ∧ ((gi (nearR S n) y ∈ orderT S n ∧ (c = 0 ∨ Anc (gi (nearG S n)) (gi (nearR S n) y) (gi (nearG S n) c))) ∨ (c = 0 ∧ gi (nearR S n) y = -1)) ∧ 0 < (gi (levG S n) y + 1).toNat ∧ (gi (levG S n) (gi (nearR S n) y) + 1).toNat < (gi (levG S n) y + 1).toNat := by
 have hO := hG.gok.ord
 have hpos := hG.npos
 have hyV : y ∈ orderT S n := by
  rcases hy with h | ⟨h1, h2⟩
  ·exact h.1
  ·exact absurd (by rw [h2, h1, nearR_0 hpos]) hne
 have hl := hG.lev_nn hyV
 have hy0 := hO.nn y hyV
 refine ⟨hyV, ?_⟩
 by_cases h0 : y = 0
 ·subst h0
  rw [nearR_0 hpos]
  have hc0 : c = 0 := by
   rcases hy with ⟨_, h | h⟩ | h
   ·exact h
   ·rcases h.cases' with e | ⟨e, _⟩
    ·by_cases hc0 : c = 0
     ·exact hc0
     ·have := hO.nn c hc
      exact absurd (by rw [nearR_get this hc0, ← e]) hne
    ·exact absurd rfl e
   ·exact h.1
  have hm : gi (levG S n) (-1) = -1 := gi_out (.inl (by omega))
  exact ⟨.inr ⟨hc0, rfl⟩, by omega, by rw [hm]; omega⟩
 ·rw [nearR_get hy0 h0]
  obtain ⟨g1, g2⟩ := hG.near_mem hyV h0
  have g3 := hG.lev_near hyV h0
  have g4 := hG.lev_nn g1
  refine ⟨.inl ⟨g1, ?_⟩, by omega, by omega⟩
  rcases hy with ⟨_, h | h⟩ | h
  ·exact .inl h
  ·rcases h.cases' with e | ⟨_, _, h3⟩
   ·by_cases hc0 : c = 0
    ·exact .inl hc0
    ·have := hO.nn c hc
     exact absurd (by rw [nearR_get this hc0, e]) hne
   ·exact .inr h3
  ·exact .inl h.1
end
theorem fronts_spec (f : PFunc) (hE : EndsOk f) (hn : f.blocks.length ≤ 1000) (t a b fb : Nat) (T : TypeId) (x : AV) (rows : List (List Int)) (hF : FrI f.blocks.length rows) :
  ACall prog E 91 [.po t 0, .fro 1 ((orderT (EndsOf f) f.blocks.length).map encI), froN eI (predsR f f.blocks.length)]
   [(0, nestO eI 23 3 fb rows), (t, .cells 156 [.own a f.blocks.length, .own b f.blocks.length, x, nref fb f.blocks.length]), (b, .grow 1 3 (cI (levG (EndsOf f) f.blocks.length))), (a, .grow 1 3 (cI (nearR (EndsOf f) f.blocks.length)))]
   fun r O => r = .tup [] ∧ ∃ rows', FrI f.blocks.length rows' ∧ O = [(0, nestO eI 23 3 fb rows'), (t, .cells 156 [.own a f.blocks.length, .own b f.blocks.length, x, nref fb f.blocks.length]), (b, .grow 1 3 (cI (levG (EndsOf f) f.blocks.length))), (a, .grow 1 3 (cI (nearR (EndsOf f) f.blocks.length)))] := by
 have hG := hE.grph
 have hpos := hG.npos
 have hol := order_len hG
 have hrowP : ∀ k, k < f.blocks.length → (predsR f f.blocks.length)[k]? = some (predsT (EndsOf f) f.blocks.length (k : Int)) := fun k h => predsR_row f h
 have hpl : ∀ b, (predsT (EndsOf f) f.blocks.length b).length ≤ 2 * f.blocks.length := fun b => predsT_len f b _
 obtain ⟨n, hnn⟩ : ∃ n, f.blocks.length = n := ⟨_, rfl⟩
 obtain ⟨S, hS⟩ : ∃ S, EndsOf f = S := ⟨_, rfl⟩
 rw [hnn] at hG hpos hol hn hrowP hpl hF ⊢
 rw [hS] at hG hol hrowP hpl ⊢
 obtain ⟨V, hVe⟩ : ∃ V, orderT S n = V := ⟨_, rfl⟩
 have hVr : ∀ y ∈ V, 0 ≤ y ∧ y < n := fun y hy => order_rng hG.toEOk (hVe ▸ hy)
 have hX := hG.exact
 have hO := hG.gok.ord
 have hlev := hG.lev
 rw [hVe] at hX hO hol ⊢
 have hLl : (levG S n).length = n := hlev.len
 have hRl : (nearR S n).length = n := nearR_len S n
 have hLg : ∀ y : Int, 0 ≤ y → y < n → (levG S n)[y.toNat]? = some (gi (levG S n) y) := fun y h1 h2 => gi_get h1 (by omega)
 have hNg : ∀ y : Int, 0 ≤ y → y < n → (nearR S n)[y.toNat]? = some (gi (nearR S n) y) := fun y h1 h2 => gi_get h1 (by rw [nearR_len]; omega)
 refine zo func91 rfl (by decide) rfl<|zd<|zSr<|z2 (zMf rfl)<|z2 (y2 underlying23 rfl)<|z2 (zMi rfl)<|z6<|zi<|y5 (γ := Nat × List (List Int)) [0, 2, 12, 13] (fun g => [(14, .int .i64 g.1)]) (fun g => [(0, nestO eI 23 3 fb g.2), (t, .cells 156 [.own a n, .own b n, x, nref fb n]), (b, .grow 1 3 (cI (levG S n))), (a, .grow 1 3 (cI (nearR S n)))]) (fun g => g.1 ≤ V.length ∧ FrI n g.2) (fun g => V.length - g.1) (0, rows) zR1 zLe (⟨qt _, hF⟩) ?_
 rintro ⟨k, rows⟩ ⟨hk, hF⟩
 try dsimp only at *
 refine zSr<|z2 (yb rfl rfl)<|z6<|zd<|zr rfl (fun ck=>?_) (fun ck=>?_)
 ·have hk2 : k < V.length := by simp at ck; omega
  obtain ⟨c, hc⟩ : ∃ c, V[k] = c := ⟨_, rfl⟩
  have hcV : c ∈ V := hc ▸ qu hk2
  obtain ⟨hc0, hcn⟩ := hVr c hcV
  have hrow : (predsR f n)[c.toNat]? = some (predsT S n c) := by
   have := hrowP c.toNat (by omega)
   rwa [show ((c.toNat : Nat) : Int) = c by omega] at this
  have hpc := hpl c
  have hpr : ∀ p ∈ predsT S n c, 0 ≤ p ∧ p < n := fun p hp => preds_rng hG hp
  have hpS : ∀ p ∈ predsT S n c, c ∈ S p := fun p hp => (hG.gok.preds c (by rw [hVe]; exact hcV) p).1 hp
  obtain ⟨ps, hps⟩ : ∃ ps, predsT S n c = ps := ⟨_, rfl⟩
  rw [hps] at hrow hpc hpr hpS
  refine zh<|zd<|zi<|zSr<|z2 (zIM k underlying23 sizeOf3 rfl rfl rfl (by rw [qq hk2, hc])) ?_
  refine z2 (zLi isAgg3 rfl)<|z2 (zAi rfl)<|z6<|zSr<|z2 (zMf rfl)<|z2 (zMi rfl)<|z2 (zIM c.toNat underlying118 sizeOf23 rfl rfl (by omega) hrow)<|z2 (zLf isAgg23 rfl)<|z2 (y2 underlying23 rfl)<|z2 (zMi rfl)<|z6<|zi<|y5 (γ := Nat × List (List Int)) [0, 2, 7, 12, 13, 14, 21, 22] (fun g => [(23, .int .i64 g.1)]) (fun g => [(0, nestO eI 23 3 fb g.2), (t, .cells 156 [.own a n, .own b n, x, nref fb n]), (b, .grow 1 3 (cI (levG S n))), (a, .grow 1 3 (cI (nearR S n)))]) (fun g => g.1 ≤ ps.length ∧ FrI n g.2) (fun g => ps.length - g.1) (0, rows) zR1 zLe (⟨qt _, hF⟩) ?_
  rintro ⟨j, rows⟩ ⟨hj, hF⟩
  try dsimp only at *
  refine zSr<|z2 (yb rfl rfl)<|z6<|zd<|zr rfl (fun cj=>?_) (fun cj=>?_)
  ·have hj2 : j < ps.length := by simp at cj; omega
   obtain ⟨p, hp⟩ : ∃ p, ps[j] = p := ⟨_, rfl⟩
   obtain ⟨hp0, hpn⟩ := hpr p (hp ▸ qu hj2)
   have hpc2 := hpS p (hp ▸ qu hj2)
   refine zh<|zd<|zi<|zSr<|z2 (zIM j underlying23 sizeOf3 rfl rfl rfl (by rw [qq hj2, hp])) ?_
   refine z2 (zLi isAgg3 rfl)<|z2 (zAi rfl)<|z6<|zd<|zSr<|z2 (zMp rfl)<|z2 (zn rfl)<|z2 (ze underlying156 rfl sizeOf23 (by decide) rfl rfl)<|z2 (zl (c := .own _ _) isAgg23 rfl ⟨_, .t1⟩ rfl)<|z2 (zMi rfl)<|z2 (yf (j := p.toNat) underlying23 sizeOf3 rfl rfl (by omega) ⟨_, .t2⟩ (by first | rfl | (simp [cI_len, cB_len]; done) | (simp [cI_len, cB_len]; omega)) (by omega))<|z2 (yt (j := p.toNat) isAgg3 rfl ⟨_, .t2⟩ (hLg p hp0 hpn))<|z2 (y7 rfl rfl)<|z6<|zz rfl (fun cl=>?_) (fun cl=>?_)
   ·refine y4<|zRg<|z2 (zAd rfl rfl)<|z2 (zMi rfl)<|z6 ?_
    exact ⟨(j + 1, rows), zR8, zR1, zLe, ⟨hj2, hF⟩, by dsimp only; omega⟩
   ·have hpV : p ∈ V := by have h0 : ¬ gi (levG S n) p = -1 := (by simpa using cl); rw [← hVe]; exact (hG.lev_mem p).1 h0
    refine zh<|zSr<|z2 (zMi rfl)<|z2 (zAi rfl)<|z6<|zi<|y5 (γ := Int × List (List Int)) [0, 2, 7, 12, 13, 14, 21, 22, 23] (fun g => [(10, .int .i64 g.1)]) (fun g => [(0, nestO eI 23 3 fb g.2), (t, .cells 156 [.own a n, .own b n, x, nref fb n]), (b, .grow 1 3 (cI (levG S n))), (a, .grow 1 3 (cI (nearR S n)))]) (fun g => ((g.1 ∈ V ∧ (c = 0 ∨ Anc (gi (nearG S n)) g.1 (gi (nearG S n) c))) ∨ (c = 0 ∧ g.1 = -1)) ∧ FrI n g.2) (fun g => (gi (levG S n) g.1 + 1).toNat) (p, rows) zR1 zLe (⟨.inl ⟨hpV, front_begin hG (by rw [hVe]; exact hcV) (by rw [hVe]; exact hpV) hpc2⟩, hF⟩) ?_
    rintro ⟨y, rows⟩ ⟨hy, hF⟩
    try dsimp only at *
    refine zd<|zSr<|z2 (zMi rfl)<|z2 (zMp rfl)<|z2 (zn rfl)<|z2 (ze underlying156 rfl sizeOf23 (by decide) rfl rfl)<|z2 (zl (c := .own _ _) isAgg23 rfl ⟨_, .t1⟩ rfl)<|z2 (zMi rfl)<|z2 (yf (j := c.toNat) underlying23 sizeOf3 rfl rfl (by omega) ⟨_, .t3⟩ (by first | rfl | (simp [cI_len, cB_len]; done) | (simp [cI_len, cB_len]; omega)) (by omega))<|z2 (yt (j := c.toNat) isAgg3 rfl ⟨_, .t3⟩ (hNg c hc0 hcn))<|z2 (yj rfl rfl)<|z6<|zz rfl (fun cy=>?_) (fun cy=>?_)
    ·have hne : y ≠ gi (nearR S n) c := by simpa using cy
     obtain ⟨hyV, hnx, hms⟩ := front_step hG (hVe ▸ hcV) (by rw [hVe]; exact hy) hne
     rw [hVe] at hyV hnx
     obtain ⟨hy0, hyn⟩ := hVr y hyV
     have hyl : y.toNat < rows.length := by rw [hF.1]; omega
     have hrl := hF.len (qu hyl)
     refine zh<|zd<|zi<|zSr<|z2 (zMp rfl)<|z2 (zn rfl)<|z2 (ze underlying156 rfl sizeOf118 (by decide) rfl rfl)<|z2 (zl (c := nref _ _) isAgg118 rfl ⟨_, .t1⟩ rfl)<|z2 (zMi rfl)<|z2 (qi (j := y.toNat) underlying118 sizeOf23 rfl rfl (by omega) (by omega))<|q8 (j := y.toNat) (r := rows[y.toNat]) isAgg23 rfl (qq hyl) (fun _ => .head)<|fun i58 => z2 (zMi rfl)<|y1 rfl (zm (.l (.r (.r (.r (.r (.rest _))))))) (containsE_spec rows[y.toNat] c i58 _ (by omega)) ?_
     rintro r60 O60 ⟨rfl, rfl⟩
     refine z2 (yl rfl)<|zc (GStep.nestBack (r := rows[y.toNat]) .head .head) ?_
     rw [List.set_getElem_self]
     refine z6<|zz rfl (fun cin=>?_) (fun cin=>?_)
     ·have hnin : c ∉ rows[y.toNat] := by simpa using cin
      refine yp (γ := Unit) [0, 2, 7, 10, 12, 13, 14, 21, 22, 23] (fun u => []) (fun u => [(t, .cells 156 [.own a n, .own b n, x, nref fb n]), (b, .grow 1 3 (cI (levG S n))), (a, .grow 1 3 (cI (nearR S n))), (0, nestO eI 23 3 fb (rows.set y.toNat (rows[y.toNat] ++ [c])))]) (fun u => True) ?_ (fun _ _ h => h) ?_
      ·refine zu (fun j => Nat.beq j 16) (by kernel_rfl) rfl (zm (.l (.r (.r (.r (.rest _))))))<|zTk 0 rfl (zMp rfl)<|zTk 1 rfl (zn rfl)<|zTk 2 rfl (ze underlying156 rfl sizeOf118 (by decide) rfl rfl)<|zTk 3 rfl (zl (c := nref _ _) isAgg118 rfl ⟨_, .head⟩ rfl)<|zTk 4 rfl (zMi rfl)<|zTk 5 rfl (zMp rfl)<|zTk 6 rfl (zn rfl)<|zTk 7 rfl (ze underlying156 rfl sizeOf118 (by decide) rfl rfl)<|zTk 8 rfl (zl (c := nref _ _) isAgg118 rfl ⟨_, .head⟩ rfl)<|zTk 9 rfl (zMi rfl)<|zTk 10 rfl (qi (j := y.toNat) underlying118 sizeOf23 rfl rfl (by omega) (by omega))<|zTk 12 rfl (zMi rfl)<|yh (i := 11) (j := 13) rfl rfl (by kernel_rfl) ?_ ?_
       ·refine q8 (j := y.toNat) (r := rows[y.toNat]) isAgg23 rfl (qq hyl) (fun _ => .head)<|fun i73 => z6<|zOn 13 rfl<|zw (rows := [[_]]) ps23_1 rfl rfl rfl rfl rfl<|z6<|zOn 14 rfl<|yg (k := 1) underlying23 type3 rfl rfl rfl rfl rfl (fun _ => .head) (by rw [eI.av_len]; rfl) (by decide) rfl (by show (_ + 1) * 8 ≤ _; omega) (by show _ + 1 ≤ _; omega)<|fun i76 => z6<|zTk 15 rfl (qi (j := y.toNat) underlying118 sizeOf23 rfl rfl (by omega) (by omega))<|y8<|ya (i := 16) rfl (by kernel_rfl) (by kernel_rfl)<|qj (j := y.toNat) (r := rows[y.toNat] ++ [c]) sizeOf23 rfl rfl (by omega) .t3 .t3 rfl (eI.av_push _ _) (by simp)<|z6<|yd (by kernel_rfl) ?_
        exact ⟨(), zR10, trivial, zLe, trivial⟩
       ·refine zw (rows := [[_]]) ps23_1 rfl rfl rfl rfl rfl<|z6<|zOn 11 rfl<|q8 (j := y.toNat) (r := rows[y.toNat]) isAgg23 rfl (qq hyl) (fun _ => .head)<|fun i73 => z6<|zOn 14 rfl<|yg (k := 1) underlying23 type3 rfl rfl rfl rfl rfl (fun _ => .head) (by rw [eI.av_len]; rfl) (by decide) rfl (by show (_ + 1) * 8 ≤ _; omega) (by show _ + 1 ≤ _; omega)<|fun i76 => z6<|zTk 15 rfl (qi (j := y.toNat) underlying118 sizeOf23 rfl rfl (by omega) (by omega))<|y8<|ya (i := 16) rfl (by kernel_rfl) (by kernel_rfl)<|qj (j := y.toNat) (r := rows[y.toNat] ++ [c]) sizeOf23 rfl rfl (by omega) .t3 .t3 rfl (eI.av_push _ _) (by simp)<|z6<|yd (by kernel_rfl) ?_
        exact ⟨(), zR10, trivial, zLe, trivial⟩
      ·rintro _ _
       refine yc (za (zb .t3))<|zRg<|z2 (zMp rfl)<|z2 (zn rfl)<|z2 (ze underlying156 rfl sizeOf23 (by decide) rfl rfl)<|z2 (zl (c := .own _ _) isAgg23 rfl ⟨_, .t1⟩ rfl)<|z2 (zMi rfl)<|z2 (yf (j := y.toNat) underlying23 sizeOf3 rfl rfl (by omega) ⟨_, .t3⟩ (by first | rfl | (simp [cI_len, cB_len]; done) | (simp [cI_len, cB_len]; omega)) (by omega))<|z2 (yt (j := y.toNat) isAgg3 rfl ⟨_, .t3⟩ (hNg y hy0 hyn))<|z2 (zAi rfl)<|z6 ?_
       exact ⟨(gi (nearR S n) y, rows.set y.toNat (rows[y.toNat] ++ [c])), zR9, zR1, zLe, ⟨hnx, hF.push hyl hc0 hcn hnin⟩, by dsimp only; omega⟩
     ·refine zh<|zRg<|z2 (zMp rfl)<|z2 (zn rfl)<|z2 (ze underlying156 rfl sizeOf23 (by decide) rfl rfl)<|z2 (zl (c := .own _ _) isAgg23 rfl ⟨_, .t1⟩ rfl)<|z2 (zMi rfl)<|z2 (yf (j := y.toNat) underlying23 sizeOf3 rfl rfl (by omega) ⟨_, .t3⟩ (by first | rfl | (simp [cI_len, cB_len]; done) | (simp [cI_len, cB_len]; omega)) (by omega))<|z2 (yt (j := y.toNat) isAgg3 rfl ⟨_, .t3⟩ (hNg y hy0 hyn))<|z2 (zAi rfl)<|z6 ?_
      exact ⟨(gi (nearR S n) y, rows), zR9, zR1, zLe, ⟨hnx, hF⟩, by dsimp only; omega⟩
    ·refine y4<|zRg<|z2 (zAd rfl rfl)<|z2 (zMi rfl)<|z6 ?_
     exact ⟨(j + 1, rows), zR8, zR1, zLe, ⟨hj2, hF⟩, by dsimp only; omega⟩
  ·refine y4<|zRg<|z2 (zAd rfl rfl)<|z2 (zMi rfl)<|z6 ?_
   exact ⟨(k + 1, rows), zR4, zR1, zLe, ⟨hk2, hF⟩, by dsimp only; omega⟩
 ·refine y4<|zSr<|z2 (zMp rfl)<|z2 (zn rfl)<|z2 (ze underlying156 rfl sizeOf118 (by decide) rfl rfl)<|z2 (zl (c := nref _ _) isAgg118 rfl ⟨_, .t1⟩ rfl)<|z2 (Gv.lenN underlying118 rfl)<|z2 (zMi rfl)<|z6<|zi<|y5 (γ := Nat × List (List Int)) [0, 84] (fun g => [(85, .int .i64 g.1)]) (fun g => [(0, nestO eI 23 3 fb g.2), (t, .cells 156 [.own a n, .own b n, x, nref fb n]), (b, .grow 1 3 (cI (levG S n))), (a, .grow 1 3 (cI (nearR S n)))]) (fun g => g.1 ≤ n ∧ FrI n g.2) (fun g => n - g.1) (0, rows) zR1 zLe (⟨qt _, hF⟩) ?_
  rintro ⟨m, rows⟩ ⟨hm, hF⟩
  try dsimp only at *
  refine zSr<|z2 (yb rfl rfl)<|z6<|zd<|zr rfl (fun cm=>?_) (fun cm=>?_)
  ·have hm2 : m < n := by simp at cm; omega
   have hml : m < rows.length := by rw [hF.1]; omega
   have hrl := hF.len (qu hml)
   refine zh<|zd<|zi<|zSr<|z2 (zMi rfl)<|z2 (zAi rfl)<|z6<|zRg<|z2 (zMp rfl)<|z2 (zn rfl)<|z2 (ze underlying156 rfl sizeOf118 (by decide) rfl rfl)<|z2 (zl (c := nref _ _) isAgg118 rfl ⟨_, .t1⟩ rfl)<|z2 (zMi rfl)<|z2 (qi (j := m) underlying118 sizeOf23 rfl rfl rfl (by omega))<|q8 (j := m) (r := rows[m]) isAgg23 rfl (qq hml) (fun _ => .head)<|fun i94 => y1 rfl (zm (.l (.r (.r (.r (.r (.rest _))))))) (sortE_own rows[m] i94 _ (by omega)) ?_
   rintro r95 O95 ⟨rfl, rfl⟩
   refine z6<|yc (GStep.nestBackN (r := sortI rows[m]) (sortI_perm _).length_eq .head .head)<|zRg<|z2 (zAd rfl rfl)<|z2 (zMi rfl)<|z6 ?_
   exact ⟨(m + 1, rows.set m (sortI rows[m])), zR2, zR1, zLe, ⟨hm2, hF.sort hml⟩, by dsimp only; omega⟩
  ·refine y4<|yv ?_
   exact ⟨rfl, rows, hF, rfl⟩
end Go.Proofs.YtiojekbkamegdaaGreatDoor
namespace Go.Proofs.YtiojekbkamegdaaGreatDoor
open Go.Proofs.Tryz
open Go.Proofs
variable {E : World}
set_option maxRecDepth 20000
def treeV (f : PFunc) (x y : AV) : AV := .pf [.fro 1 ((nearR (EndsOf f) f.blocks.length).map encI), .fro 1 ((levG (EndsOf f) f.blocks.length).map encI), x, y]
theorem thas_spec (lev : List Int) (b : Int) (x0 x2 x3 : AV) (hl : lev.length ≤ 1000) : AFun prog E 156 [.pf [x0, .fro 1 (lev.map encI), x2, x3], .int .i64 b] (.bool (decide (gi lev b ≠ -1))) := by
 refine zo func156 rfl (by decide) rfl<|zSr<|z2 (zAb rfl)<|z6<|zSr<|z2 (zMg rfl)<|z2 (Gv.neqPf underlying83 type156 rfl)<|z2 (zMb rfl)<|z8 rfl rfl rfl<|z2 (zMi rfl)<|z8 rfl rfl rfl<|z2 (q6 rfl rfl)<|z2 (zPt rfl rfl rfl)<|z2 (zMb rfl)<|zt (s := 11) rfl (fun c0=>?_) (fun c0=>?_)
 ·have h0 : 0 ≤ b := by simpa using c0
  refine z8 rfl rfl c0<|z2 (zMi rfl)<|z8 rfl rfl c0<|z2 (zMg rfl)<|z8 rfl rfl c0<|z2 (yx rfl)<|z8 rfl rfl c0<|z2 (zFF underlying156 rfl sizeOf23 rfl rfl)<|z8 rfl rfl c0<|z2 (zLf isAgg23 rfl)<|z8 rfl rfl c0<|z2 (y2 underlying23 rfl)<|z8 rfl rfl c0<|z2 (yb rfl rfl)<|z2 (zPt rfl c0 rfl)<|z2 (zMb rfl)<|zt (s := 20) rfl (fun c1=>?_) (fun c1=>?_)
  ·have h1 : b < lev.length := by simpa using c1
   have hg : lev[b.toNat]? = some (gi lev b) := gi_get h0 (by omega)
   refine z8 rfl rfl c1<|z2 (zMg rfl)<|z8 rfl rfl c1<|z2 (yx rfl)<|z8 rfl rfl c1<|z2 (zFF underlying156 rfl sizeOf23 rfl rfl)<|z8 rfl rfl c1<|z2 (zLf isAgg23 rfl)<|z8 rfl rfl c1<|z2 (zMi rfl)<|z8 rfl rfl c1<|z2 (zIM b.toNat underlying23 sizeOf3 rfl rfl (by omega) hg)<|z8 rfl rfl c1<|z2 (zLi isAgg3 rfl)<|z8 rfl rfl c1<|z2 (yj rfl rfl)<|z2 (zPt rfl c1 rfl)<|z2 (zAb rfl)<|z6<|zg<|zk (x := .bool _) rfl ?_
   simp
  ·have h1 : ¬ b < lev.length := by simpa using c1
   refine z7 rfl rfl c1<|z7 rfl rfl c1<|z7 rfl rfl c1<|z7 rfl rfl c1<|z7 rfl rfl c1<|z7 rfl rfl c1<|z7 rfl rfl c1<|z7 rfl rfl c1<|z2 (zPf rfl c1 rfl)<|z2 (zAb rfl)<|z6<|zg<|zk (x := .bool _) rfl ?_
   rw [gi_out (.inr (by omega))]; rfl
 ·have h0 : ¬ 0 ≤ b := by simpa using c0
  refine z7 rfl rfl c0<|z7 rfl rfl c0<|z7 rfl rfl c0<|z7 rfl rfl c0<|z7 rfl rfl c0<|z7 rfl rfl c0<|z7 rfl rfl c0<|z2 (zPf rfl c0 rfl)<|z2 (zMb rfl)<|z7 rfl rfl rfl<|z7 rfl rfl rfl<|z7 rfl rfl rfl<|z7 rfl rfl rfl<|z7 rfl rfl rfl<|z7 rfl rfl rfl<|z7 rfl rfl rfl<|z7 rfl rfl rfl<|z2 (zPf rfl rfl rfl)<|z2 (zAb rfl)<|z6<|zg<|zk (x := .bool _) rfl ?_
  rw [gi_out (.inl (by omega))]; rfl
section
variable {S : Int → List Int} {n : Nat} (hG : Grph S n)
include hG
theorem over_step {a b : Int} (ha : a ∈ orderT S n) (hb : b ∈ orderT S n) (hlt : gi (levG S n) a < gi (levG S n) b) :
  b ≠ 0 ∧ gi (nearR S n) b ∈ orderT S n ∧ gi (levG S n) b = gi (levG S n) (gi (nearR S n) b) + 1 ∧ domB S n a b = domB S n a (gi (nearR S n) b) := by
 have hO := hG.gok.ord
 have hla := hG.lev_nn ha
 have hl0 : gi (levG S n) 0 = 0 := hG.lev.zero
 have hb0 : b ≠ 0 := fun e => by rw [e, hl0] at hlt; omega
 obtain ⟨g1, g2⟩ := hG.near_mem hb hb0
 have g3 := hG.lev_near hb hb0
 rw [nearR_get (hO.nn b hb) hb0]
 refine ⟨hb0, g1, g3, ?_⟩
 rw [Bool.eq_iff_iff, hG.domB_iff, hG.domB_iff, hG.dom_iff hb, hG.dom_iff g1]
 constructor
 ·intro h
  rcases h.cases' with e | ⟨_, _, h3⟩
  ·rw [e] at hlt; omega
  ·exact h3
 ·intro h
  exact .up hb0 (hG.exact.has b hb) h
theorem over_end {a b : Int} (hb : b ∈ orderT S n) (hge : ¬ gi (levG S n) a < gi (levG S n) b) : domB S n a b = decide (a = b) := by
 rw [Bool.eq_iff_iff, hG.domB_iff, hG.dom_iff hb, decide_eq_true_eq]
 constructor
 ·intro h
  exact (hG.lev_anc hb h).2.2 (by omega)
 ·rintro rfl; exact .refl _
theorem over_none {a b : Int} (h : a ∉ orderT S n ∨ b ∉ orderT S n) : domB S n a b = false := by
 rw [Bool.eq_false_iff]
 intro hd
 have hd := (hG.domB_iff a b).1 hd
 have hb : b ∈ orderT S n := (hG.gok.ord.mem b).2 hd.1
 have ha : a ∈ orderT S n := (hG.lev_anc hb ((hG.dom_iff hb).1 hd)).1
 rcases h with h | h
 ·exact h ha
 ·exact h hb
end
theorem Over_spec (f : PFunc) (hE : EndsOk f) (hn : f.blocks.length ≤ 1000) (a b : Int) (x y : AV) : AFun prog E 185 [treeV f x y, .int .i64 a, .int .i64 b] (.bool (domB (EndsOf f) f.blocks.length a b)) := by
 have hG := hE.grph
 have hol := order_len hG
 have hO := hG.gok.ord
 have hrng : ∀ z ∈ orderT (EndsOf f) f.blocks.length, 0 ≤ z ∧ z < f.blocks.length := fun z hz => order_rng hG.toEOk hz
 have hLl : (levG (EndsOf f) f.blocks.length).length = f.blocks.length := hG.lev.len
 have hLg : ∀ z : Int, 0 ≤ z → z < f.blocks.length → (levG (EndsOf f) f.blocks.length)[z.toNat]? = some (gi (levG (EndsOf f) f.blocks.length) z) := fun z h1 h2 => gi_get h1 (by omega)
 have hNg : ∀ z : Int, 0 ≤ z → z < f.blocks.length → (nearR (EndsOf f) f.blocks.length)[z.toNat]? = some (gi (nearR (EndsOf f) f.blocks.length) z) := fun z h1 h2 => gi_get h1 (by rw [nearR_len]; omega)
 unfold treeV
 refine zo func185 rfl (by decide) rfl<|zSr<|z2 (zAb rfl)<|z6<|zd<|zSr<|z2 (zMg rfl)<|z2 (zMi rfl)<|zf (thas_spec (levG (EndsOf f) f.blocks.length) a _ x y (by omega)) rfl<|z2 (yl rfl)<|z2 (zMb rfl)<|zt (s := 11) rfl (fun ca=>?_) (fun ca=>?_)
 ·have ha : a ∉ orderT (EndsOf f) f.blocks.length := by have h0 : gi (levG (EndsOf f) f.blocks.length) a = -1 := (by simpa using ca); exact fun h => (hG.lev_mem a).2 h h0
  refine z7 rfl rfl ca<|z7 rfl rfl ca<|z7 rfl rfl ca<|z7 rfl rfl ca<|z2 (zPt rfl ca rfl)<|z6<|yo rfl rfl<|zSr<|z2 (zAb rfl)<|z6<|zg<|zk (x := .bool _) rfl ?_
  rw [over_none hG (.inl ha)]
 ·have ha : a ∈ orderT (EndsOf f) f.blocks.length := by have h0 : ¬ gi (levG (EndsOf f) f.blocks.length) a = -1 := (by simpa using ca); exact (hG.lev_mem a).1 h0
  refine z8 rfl rfl ca<|z2 (zMg rfl)<|z8 rfl rfl ca<|z2 (zMi rfl)<|z8 rfl rfl ca<|zf (thas_spec (levG (EndsOf f) f.blocks.length) b _ x y (by omega)) rfl<|z8 rfl rfl ca<|z2 (yl rfl)<|z2 (zPf rfl ca rfl)<|z6<|zz rfl (fun cb=>?_) (fun cb=>?_)
  ·have hb : b ∉ orderT (EndsOf f) f.blocks.length := by have h0 : gi (levG (EndsOf f) f.blocks.length) b = -1 := (by simpa using cb); exact fun h => (hG.lev_mem b).2 h h0
   refine zSr<|z2 (zAb rfl)<|z6<|zg<|zk (x := .bool _) rfl ?_
   rw [over_none hG (.inr hb)]
  ·have hb : b ∈ orderT (EndsOf f) f.blocks.length := by have h0 : ¬ gi (levG (EndsOf f) f.blocks.length) b = -1 := (by simpa using cb); exact (hG.lev_mem b).1 h0
   obtain ⟨ha0, han⟩ := hrng a ha
   refine zh<|zd<|zi<|y5 (γ := Int) [0, 1] (fun c => [(2, .int .i64 c)]) (fun c => []) (fun c => c ∈ orderT (EndsOf f) f.blocks.length ∧ domB (EndsOf f) f.blocks.length a b = domB (EndsOf f) f.blocks.length a c) (fun c => (gi (levG (EndsOf f) f.blocks.length) c).toNat) b zR1 zLe (⟨hb, rfl⟩) ?_
   rintro c ⟨hc, hd⟩
   obtain ⟨hc0, hcn⟩ := hrng c hc
   have hl := hG.lev_nn hc
   refine zd<|zd<|zu (fun j => false) (by kernel_rfl) rfl (zm (.rest _))<|zTk 0 rfl (zMg rfl)<|zTk 1 rfl (yx rfl)<|zTk 2 rfl (zFF underlying156 rfl sizeOf23 rfl rfl)<|zTk 3 rfl (zLf isAgg23 rfl)<|zTk 4 rfl (zMi rfl)<|zTk 5 rfl (zIM c.toNat underlying23 sizeOf3 rfl rfl (by omega) (hLg c hc0 hcn))<|zTk 6 rfl (zLi isAgg3 rfl)<|zTk 7 rfl (zMg rfl)<|zTk 8 rfl (yx rfl)<|zTk 9 rfl (zFF underlying156 rfl sizeOf23 rfl rfl)<|zTk 10 rfl (zLf isAgg23 rfl)<|zTk 11 rfl (zMi rfl)<|zTk 12 rfl (zIM a.toNat underlying23 sizeOf3 rfl rfl (by omega) (hLg a ha0 han))<|zTk 13 rfl (zLi isAgg3 rfl)<|zTk 14 rfl (q4 rfl rfl)<|zDn<|zz rfl (fun cc=>?_) (fun cc=>?_)
   ·have hlt : gi (levG (EndsOf f) f.blocks.length) a < gi (levG (EndsOf f) f.blocks.length) c := by simpa using cc
    obtain ⟨s1, s2, s3, s4⟩ := over_step hG ha hc hlt
    refine zh<|zi<|zRg<|z2 (zMg rfl)<|z2 (yx rfl)<|z2 (zFF underlying156 rfl sizeOf23 rfl rfl)<|z2 (zLf isAgg23 rfl)<|z2 (zMi rfl)<|z2 (zIM c.toNat underlying23 sizeOf3 rfl rfl (by omega) (hNg c hc0 hcn))<|z2 (zLi isAgg3 rfl)<|z2 (zAi rfl)<|z6 ?_
    exact ⟨gi (nearR (EndsOf f) f.blocks.length) c, zR2, zR1, zLe, ⟨s2, by rw [hd, s4]⟩, by have := hG.lev_nn s2; omega⟩
   ·have hge : ¬ gi (levG (EndsOf f) f.blocks.length) a < gi (levG (EndsOf f) f.blocks.length) c := by simpa using cc
    refine y4<|zSr<|z2 (zMi rfl)<|z2 (zMi rfl)<|z2 (y7 rfl rfl)<|z2 (zAb rfl)<|z6<|zg<|zk (x := .bool _) rfl ?_
    rw [hd, over_end hG hc hge]
end Go.Proofs.YtiojekbkamegdaaGreatDoor
